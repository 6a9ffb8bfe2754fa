/-
  Who came first is answered first: the walk.
-/
import Derived.Test.YtmedmajdoecjfaaDoorFacts
import Derived.Test.YtmedmajdoecjfaaDoorQueH
namespace Go.Proofs.YtmedmajdoecjfaaDoor
open Go Go.Eng Go.RowKit Go.Proofs
set_option linter.unusedVariables false
set_option linter.unusedSimpArgs false
set_option maxHeartbeats 1000000
set_option maxRecDepth 20000

abbrev rqA (k : Int) : Rq := ⟨k, 0, addA⟩
abbrev hA1 : List Rv := [⟨[], []⟩]
abbrev hA2 : List Rv := [⟨[], []⟩, ⟨addA, [⟨[97], []⟩]⟩]
structure FS (q : Qs) (od : List Int) : Prop where
  H : q.H = hA1
  ro : q.room = 100
  ws : q.ws = od.map rqA
  tk : ∀ k, (q.tk k).isSome = true ↔ k ∈ od
  pos : ∀ k ∈ od, 1 ≤ k ∧ k ≤ 256
theorem FS.sub {q : Qs} {od : List Int} (h : FS q od) {k : Int} (h1 : 1 ≤ k ∧ k ≤ 256) (hl : od.length < 100) : (submitR q (rqA k) = (q, 12)) ∨ ∃ q', submitR q (rqA k) = (q', 0) ∧ FS q' (od ++ [k]) := by
  have hb : ¬ ((rqA k).base < 0 ∨ (rqA k).base > (q.H.length : Int) - 1) := fun j => j.elim (fun j => by have : (0 : Int) < 0 := j; omega) (fun j => by rw [h.H] at j; have : (0 : Int) > 1 - 1 := j; omega)
  have ha : ¬ ((rqA k).id < 1 ∨ (rqA k).l.length = 0) := fun j => j.elim (fun j => by have : k < 1 := j; omega) (fun j => by cases j)
  by_cases hk : k ∈ od
  · exact Or.inl (sub12 ha hb ((h.tk k).2 hk))
  · refine Or.inr ⟨_, sub0 ha hb (fun j => hk ((h.tk k).1 j)) (by rw [h.ro, h.ws, List.length_map]; omega), h.H, h.ro, ?_, fun x => ?_, fun x hx => ?_⟩
    · show q.ws ++ [rqA k] = _
      rw [h.ws, List.map_append]; rfl
    · show (setK q.tk k none x).isSome = true ↔ _
      unfold setK
      by_cases hx : x = k
      · rw [if_pos hx]; simp [hx]
      · rw [if_neg hx, h.tk x]; simp [hx]
    · rcases List.mem_append.1 hx with j | j
      · exact h.pos x j
      · rw [List.mem_singleton.1 j]; exact h1
theorem FS.waits {q : Qs} {od : List Int} (h : FS q od) : (q.ws.map Rq.id).filter (fun k => !decide (k < 1)) = od := by
  have e : q.ws.map Rq.id = od := by
    rw [h.ws, List.map_map]
    exact (List.map_congr_left (fun a _ => rfl)).trans (List.map_id od)
  rw [e]
  refine List.filter_eq_self.2 (fun k hk => ?_)
  have := (h.pos k hk).1
  simp; omega
structure FT (q : Qs) (od : List Int) (i : Nat) : Prop where
  H : q.H = hA1 ∨ q.H = hA2
  ws : q.ws = (od.drop i).map rqA
  t0 : q.tk 0 = none
  pos : ∀ k ∈ od, 1 ≤ k ∧ k ≤ 256
theorem FS.ft {q : Qs} {od : List Int} (h : FS q od) : FT q od 0 := ⟨Or.inl h.H, h.ws, by
  have := (h.tk 0)
  cases ht : q.tk 0 with
  | none => rfl
  | some x => rw [ht] at this; have := (h.pos 0 (this.1 rfl)).1; omega, h.pos⟩
theorem ans_id (H : List Rv) (r : Rq) (p : Bool) : (answerR H r p).2.id = r.id := by
  by_cases h : lateR H r
  · rw [ans2 h]
  · by_cases h1 : p = false
    · rw [ans3 h h1]
    · by_cases h2 : (commitR H r.l).2.2 ≠ 0
      · rw [ans4 h h1 h2]
      · rw [ans1 h h1 h2]
theorem ans_H {H : List Rv} {k : Int} {p : Bool} (h : H = hA1 ∨ H = hA2) : (answerR H (rqA k) p).1 = hA1 ∨ (answerR H (rqA k) p).1 = hA2 := by
  rcases h with rfl | rfl
  · cases p with
    | false => rw [ans3 (notlate_fresh (Int.le_refl 0)) rfl]; exact Or.inl rfl
    | true =>
      rw [ans1 (notlate_fresh (Int.le_refl 0)) (by decide) (by show ¬ (commitR [⟨[], []⟩] addA).2.2 ≠ 0; rw [known_commit]; simp)]
      show (commitR [⟨[], []⟩] addA).1 = hA1 ∨ (commitR [⟨[], []⟩] addA).1 = hA2
      rw [known_commit]; exact Or.inr rfl
  · rw [ans2 (show lateR hA2 (rqA k) from ⟨⟨1, [97], []⟩, List.mem_singleton.2 rfl, by show (0 : Int) < ((lastR hA2 [97] : Nat) : Int); decide⟩)]; exact Or.inr rfl
theorem FT.step {q : Qs} {od : List Int} {i : Nat} (h : FT q od i) (p : Bool) : ∃ a q', stepQ q p = (q', a, decide (i < od.length)) ∧ (∀ h : i < od.length, a.id = od[i]) ∧ FT q' od (i + 1) ∧ askA q' a.id = a ∧ decide ((askR q' a.id).isSome = true) = decide (i < od.length) ∧ inK .i64 a.id := by
  by_cases hlo : i < od.length
  · have hd := List.drop_eq_getElem_cons hlo
    have hw : q.ws = rqA od[i] :: (od.drop (i + 1)).map rqA := by rw [h.ws, hd]; rfl
    have hid := ans_id q.H (rqA od[i]) p
    have hp := h.pos od[i] (List.getElem_mem hlo)
    refine ⟨(answerR q.H (rqA od[i]) p).2, { q with H := (answerR q.H (rqA od[i]) p).1, ws := (od.drop (i + 1)).map rqA, tk := setK q.tk od[i] (some (answerR q.H (rqA od[i]) p).2) }, ?_, fun _ => hid, ⟨ans_H h.H, rfl, ?_, h.pos⟩, ?_, ?_, ?_⟩
    · unfold stepQ; rw [hw, decide_eq_true hlo]
    · show setK q.tk od[i] _ 0 = none
      unfold setK; rw [if_neg (by omega)]; exact h.t0
    · unfold askA askR
      rw [hid]
      show ((setK q.tk od[i] _ od[i]).getD none).getD _ = _
      unfold setK; rw [if_pos rfl]; rfl
    · unfold askR
      rw [hid]
      show decide ((((setK q.tk od[i] _ od[i]).getD none)).isSome = true) = _
      unfold setK; rw [if_pos rfl, decide_eq_true hlo]; rfl
    · rw [hid]; show inK .i64 od[i]; constructor <;> simp only [lo, hi] <;> omega
  · have hw : q.ws = [] := by rw [h.ws, List.drop_of_length_le (by omega)]; rfl
    have ha : askR q 0 = none := by unfold askR; rw [h.t0]; rfl
    refine ⟨⟨0, 0, 0, 0⟩, q, ?_, fun k => absurd k hlo, ⟨h.H, by rw [hw, List.drop_of_length_le (by omega)]; rfl, h.t0, h.pos⟩, ?_, ?_, by decide⟩
    · unfold stepQ; rw [hw, decide_eq_false hlo]
    · show askA q 0 = _
      unfold askA; rw [ha]; rfl
    · show decide ((askR q 0).isSome = true) = _
      rw [ha, decide_eq_false hlo]; rfl
theorem QG.gro {w0 w w1 : World} {B : Nat → Prop} {pq ph : Nat} {q : Qs} {v v' : Value} (h : QG w0 B pq ph w q) (hv : ∀ g, v.ownBlock = some g → w0.heap.size ≤ g ∧ B g) (hG : Gro v.ownBlock w w1) (hv' : v'.ownBlock = v.ownBlock ∨ ∃ g, v'.ownBlock = some g ∧ w.heap.size ≤ g) (hlt : ∀ g, v'.ownBlock = some g → g < w1.heap.size) : QG w0 (fun b => B b ∨ v'.ownBlock = some b) pq ph w1 q :=
  h.mv (Y := fun b => v.ownBlock = some b) ⟨hG.os, hG.tape, hG.output, hG.size, fun k hk hn => hG.block k hk hn⟩ (fun b k => ⟨(hv b k).1, fun _ => (hv b k).2⟩) (fun b k => k.elim (fun k => ⟨Or.inl k, Nat.lt_of_lt_of_le (h.bl b k) hG.size⟩) (fun k => ⟨by
    rcases hv' with j | ⟨g, j, hg⟩
    · exact Or.inl (hv b (j ▸ k)).2
    · rw [j] at k; simp only [Option.some.injEq] at k; exact Or.inr (by omega), hlt b k⟩))
theorem queueFirst_walk {Ai : Option Addr} {ci : Nat} {ids : List UInt8} {Ap : Option Addr} {cp : Nat} {ps : List Bool} {w : World} (hids : Ty.byte.Row w (old w) Ai ids) (hil : ids.length ≤ 140737488355328) (hps : Ty.bool.Row w (old w) Ap ps) (hpl : ps.length ≤ 140737488355328) :
    Calls Tryd.prog 8 #[.slice Ai ids.length ci, .slice Ap ps.length cp] w (fun en w' => ∃ v, en = .returned v ∧ v = .bool true ∧ Ext w w') := by
  refine calls' (n := 124) (rs := #[.tmp 4]) (l := [.slice Ai ids.length ci, .slice Ap ps.length cp]) Tryd.func8 rfl rfl rfl rfl rfl ?_
  have hX := Ext.refl w
  refine W_seq ?_
  refine W_region ?_
  refine op rfl (r_assignV (v := .bool _) rfl) ?_
  refine WL_nil ?_
  refine W_seq ?_
  refine W_seq ?_
  refine W_region ?_
  refine op rfl (r_moveV (v := .slice _ _ _) rfl) ?_
  refine op rfl (r_len_slice rfl Tryd.underlying24) ?_
  refine op rfl (r_gtr rfl rfl) ?_
  refine op_split rfl (r_moveV (v := .bool (decide _)) rfl) (fun hg19 => ?_) (fun hg19 => ?_)
  · refine opG_no rfl rfl rfl rfl rfl ?_
    refine opG_no rfl rfl rfl rfl rfl ?_
    refine opG_no rfl rfl rfl rfl rfl ?_
    refine op rfl (r_pickTV (v := .bool _) rfl rfl) ?_
    refine WL_nil ?_
    refine W_then rfl ?_
    refine W_seq ?_
    refine W_region ?_
    refine opCv rfl (r_call Tryd.func12 Tryd.nm12 rfl) (known13_spec _) ?_
    rintro v9 w9 ⟨rfl, hE⟩
    replace hX := hX.trans hE
    refine op rfl (r_assignV (v := .bool _) rfl) ?_
    refine WL_nil ?_
    refine W_ret (finX_ret ?_)
    refine fin1 ?_
    exact ⟨_, rfl, by first | rfl | exact (bool_tt trivial).symm, by first | exact hX | exact hQ2'.ext.trans hX⟩
  · refine opG_yes rfl rfl rfl rfl rfl (r_moveV (v := .slice _ _ _) rfl) ?_
    refine opG_yes rfl rfl rfl rfl rfl (r_len_slice rfl Tryd.underlying74) ?_
    refine opG_yes rfl rfl rfl rfl rfl (r_gtr rfl rfl) ?_
    refine op rfl (r_pickFV (v := .bool _) rfl rfl) ?_
    refine WL_nil ?_
    refine W_ifp rfl (fun ht23 => ?_) (fun ht23 => ?_)
    · refine W_seq ?_
      refine W_region ?_
      refine opCv rfl (r_call Tryd.func12 Tryd.nm12 rfl) (known13_spec _) ?_
      rintro v9 w9 ⟨rfl, hE⟩
      replace hX := hX.trans hE
      refine op rfl (r_assignV (v := .bool _) rfl) ?_
      refine WL_nil ?_
      refine W_ret (finX_ret ?_)
      refine fin1 ?_
      exact ⟨_, rfl, by first | rfl | exact (bool_tt trivial).symm, by first | exact hX | exact hQ2'.ext.trans hX⟩
    · have hX0 := hX
      refine W_skip ?_
      refine W_seq ?_
      refine W_region ?_
      refine opCv rfl (r_call Tryd.func13 Tryd.nm13 rfl) (que_new2 (A := none) (cap := 0) (t := []) (G := fun _ ↦ False) (fun _ q ↦ q.elim) (Or.inl rfl) right_nil) ?_
      rintro v1 w1 ⟨ph, rfl, hH, hE⟩
      replace hX := hX.trans hE
      have hG1 : HG w nobody ph w1 _ := HG.second (fun b q => q.elim) hX0 hH hE
      refine op rfl (r_moveV (v := .tuple #[hp ph, .int .i64 0]) rfl) ?_
      refine op rfl (r_extract (vs := [hp ph, .int .i64 0]) rfl rfl) ?_
      refine op rfl (r_extract (vs := [hp ph, .int .i64 0]) rfl rfl) ?_
      refine op rfl (r_assignV (v := hp ph) rfl) ?_
      refine op rfl (r_assignV (v := .int .i64 0) rfl) ?_
      refine WL_nil ?_
      refine W_seq ?_
      refine W_region ?_
      refine op rfl (r_moveV (v := hp ph) rfl) ?_
      refine opCv rfl (r_call Tryd.func14 Tryd.nm14 rfl) (newG hG1 100 (by decide)) ?_
      rintro v2 w2 ⟨pq, rfl, hQ, hE⟩
      replace hX := hX.trans hE
      have hQ2 : QG w nobody pq ph w2 ⟨hA1, [], 100, fun _ => none⟩ := hQ
      have hF2 : FS ⟨hA1, [], 100, fun _ => none⟩ [] := ⟨rfl, rfl, rfl, fun k => by simp, fun k hk => by cases hk⟩
      have hX2 := hX
      refine op rfl (r_assignV (v := .pointer _) rfl) ?_
      refine WL_nil ?_
      refine W_seq ?_
      refine W_region ?_
      refine op rfl (r_assignV (v := .slice _ _ _) rfl) ?_
      refine WL_nil ?_
      refine W_seq ?_
      refine W_seq ?_
      refine W_region ?_
      refine op rfl (r_assignV (v := .int _ _) rfl) ?_
      refine WL_nil ?_
      refine W_block ?_
      refine W_loop [4, 8, 9, 10, 31, 32, 33, 34, 35, 36, 37, 38, 39, 40, 41, 42, 43, 44, 45, 46, 47, 48, 49, 50, 51, 52, 53, 54, 55, 56, 57, 58, 59, 60] (fun qq e' w' => ∃ (i : Nat) (B : Nat → Prop) (v : Value) (od : List Int) (q : Qs), qq = ids.length - i ∧ i ≤ ids.length ∧ e' 9 = .int .i64 i ∧ e' 8 = v ∧ FS q od ∧ od.length ≤ i ∧ QG w B pq ph w' q ∧ Eng.Own (Ty.int .i64) w' nobody w.heap.size 3 v od ∧ (∀ g, v.ownBlock = some g → B g)) (ids.length) ?_ ?_
      · exact ⟨0, nobody, _, [], _, by omega, by omega, rfl, rfl, hF2, Nat.le_refl _, hQ2, .nil, fun g hg => by cases hg⟩
      intro k g w' hI
      obtain ⟨i, B, v, od, q, hq, hii, h9, h8, hF, hol, hQ', hO', hB⟩ := hI
      clear hX
      have hX := Ext.refl w'
      obtain ⟨w0i, hw0i⟩ : ∃ x, x = w' := ⟨_, rfl⟩
      subst hw0i
      refine W_set (i := 9) h9 ?_
      refine W_set (i := 8) h8 ?_
      refine W_seq ?_
      refine W_seq ?_
      refine W_region ?_
      refine op rfl (r_moveV (v := .int _ _) rfl) ?_
      refine op rfl (r_moveV (v := .slice _ _ _) rfl) ?_
      refine op rfl (r_len_slice rfl Tryd.underlying24) ?_
      refine op rfl (r_lss rfl rfl) ?_
      refine WL_nil ?_
      refine W_ifp rfl (fun ht34 => ?_) (fun ht34 => ?_)
      · have hlt : i < ids.length := by omega
        obtain ⟨g1, o1, hAi1, _, _, hc1⟩ := Ty.Row.cell hids hlt
        obtain ⟨x, hx⟩ : ∃ x : Int, x = 1 + (ids[i].toNat : Int) := ⟨_, rfl⟩
        have hx8 : ids[i].toNat < 256 := ids[i].toNat_lt
        have hx1 : 1 ≤ x ∧ x ≤ 256 := by omega
        have hsub := hF.sub hx1 (by omega)
        have hxk : inK .i64 x := by constructor <;> simp only [lo, hi] <;> omega
        refine W_skip ?_
        refine W_seq ?_
        refine W_block ?_
        refine W_seq ?_
        refine W_region ?_
        refine op rfl (r_moveV (v := hp pq) rfl) ?_
        refine op rfl (r_moveV (v := .slice _ _ _) rfl) ?_
        refine op rfl (r_moveV (v := .int _ _) rfl) ?_
        refine op rfl (r_indexAddr1 rfl rfl hAi1 Tryd.underlying24 Tryd.sz5 (by omega) (by omega)) ?_
        refine op rfl (r_load (v := .int .u8 (ids[i].toNat : Int)) rfl Tryd.underlying5 rfl (ext_cell (hQ'.ext.trans hX) hc1)) ?_
        refine op rfl (r_conv' (r := (ids[i].toNat : Int)) rfl Tryd.underlying5 Tryd.underlying3 (wrap_i64 (by omega) (by omega))) ?_
        refine op rfl (r_add' (r := x) rfl rfl (by rw [wrap_i64 (by omega) (by omega)]; omega)) ?_
        refine op rfl (r_build (cs := [.int .i64 1, .string (str [97]), .slice none 0 0]) Tryd.lay38 (List.forall_mem_cons.2 ⟨rfl, List.forall_mem_cons.2 ⟨rfl, fun _ h => absurd h List.not_mem_nil⟩⟩) rfl rfl) ?_
        refine op_newS rfl (r_buildRows (vs := [[.int .i64 1, .string (str [97]), .slice none 0 0]]) Tryd.underlying39 Tryd.sz38 Tryd.zero38 rfl rfl rfl) ?_
        intro w10 b10 E10 B10 L10
        replace hX := hX.trans E10
        refine op rfl (r_build (cs := [.int .i64 x, .int .i64 0, .slice (some ⟨b10, 0, none⟩) 1 1]) Tryd.lay41 (List.forall_mem_cons.2 ⟨rfl, List.forall_mem_cons.2 ⟨rfl, fun _ h => absurd h List.not_mem_nil⟩⟩) rfl rfl) ?_
        have hG9 := hQ'.all hX
        have hb10 : w0i.heap.size ≤ b10 ∧ b10 < w10.heap.size := ⟨by omega, Blk.lt B10⟩
        refine opCv rfl (r_call Tryd.func15 Tryd.nm15 rfl) (submitG hG9 (rqA x) (c := 1) (G := fun k ↦ k = b10) (fun k hk ↦ Or.inr (Or.inr (by rw [hk]; exact hb10))) (add_row B10) hxk (show inK .i64 (0 : Int) by decide) (by simp)) ?_
        rintro v10 w10a ⟨hv10, hQ10, hK10⟩
        have hO10 : Eng.Own (Ty.int .i64) w10a nobody w.heap.size 3 v od := hO'.keep (fun _ q => q.elim) (fun _ h => h) (fun g hg => (hK10.same g (Or.inr (Or.inl (hB g hg)))).trans (hX.block g (hO'.lt hg).2))
        obtain ⟨e10, he10⟩ : ∃ e, e = (submitR q (rqA x)).2 := ⟨_, rfl⟩
        rw [← he10] at hv10
        subst hv10
        have hw0a := hX.size
        have hs10 := hK10.size
        clear hX
        have hX := Ext.refl w10a
        refine op rfl (r_assignV (v := .int _ _) rfl) ?_
        refine WL_nil ?_
        refine W_seq ?_
        refine W_region ?_
        refine op rfl (r_moveV (v := .int _ _) rfl) ?_
        refine op rfl (r_eql rfl rfl) ?_
        refine WL_nil ?_
        refine W_ifp rfl (fun ht49 => ?_) (fun ht49 => ?_)
        · have hF10 : ∃ q', submitR q (rqA x) = (q', 0) ∧ FS q' (od ++ [x]) := hsub.resolve_left (fun j => by rw [j] at he10; have : (12 : Int) = 0 := he10.symm.trans ht49; omega)
          obtain ⟨q', hq', hF10'⟩ := hF10
          rw [hq'] at hQ10
          have hQ10b : QG w (fun b => B b ∨ since w0i w10 b) pq ph w10a q' := hQ10
          refine W_region ?_
          refine op rfl (r_moveV (v := v) rfl) ?_
          refine op rfl (r_moveV (v := .slice _ _ _) rfl) ?_
          refine op rfl (r_moveV (v := .int _ _) rfl) ?_
          refine op rfl (r_indexAddr1 rfl rfl hAi1 Tryd.underlying24 Tryd.sz5 (by omega) (by omega)) ?_
          refine op rfl (r_load (v := .int .u8 (ids[i].toNat : Int)) rfl Tryd.underlying5 rfl (ext_cell (hQ10b.ext.trans hX) hc1)) ?_
          refine op rfl (r_conv' (r := (ids[i].toNat : Int)) rfl Tryd.underlying5 Tryd.underlying3 (wrap_i64 (by omega) (by omega))) ?_
          refine op rfl (r_add' (r := x) rfl rfl (by rw [wrap_i64 (by omega) (by omega)]; omega)) ?_
          refine op_newS rfl (r_buildSlice (vs := [.int .i64 x]) Tryd.underlying49 Tryd.sz3 Tryd.zero3 rfl rfl rfl) ?_
          intro w11 b11 E11 B11 L11
          replace hX := hX.trans E11
          have hQ11 := hQ10b.all hX
          refine op_append (T := Ty.int .i64) (F := nobody) (l := od) (m := [x]) rfl rfl rfl Tryd.underlying49 Tryd.sz3 Tryd.by3 Tryd.zero3 rfl (own_fext hO10 hX) ((row_one B11 hxk : (Ty.int .i64).Row w11 (old w11) (some ⟨b11, 0, none⟩) [x]).srcF flat_int) (fun _ q => q.elim) (by simp only [List.length_singleton]; omega) (by simp only [List.length_singleton]; omega) hQ11.ext.size ?_
          intro v12 w12 hO12 hGr12 hv12
          have hQ12 := hQ11.gro (v := v) (v' := v12) (fun g hg => ⟨(hO'.lt hg).1, Or.inl (Or.inl (hB g hg))⟩) hGr12 hv12 (fun g hg => (hO12.lt hg).2)
          clear hX
          have hX := Ext.refl w12
          refine op rfl (r_assignV (v := v12) rfl) ?_
          refine WL_nil ?_
          refine W_region ?_
          refine op rfl (r_moveV (v := .int _ _) rfl) ?_
          refine op rfl (r_add' (r := ((i + 1 : Nat) : Int)) rfl rfl (by rw [wrap_i64 (by omega) (by omega)]; omega)) ?_
          refine op rfl (r_assignV (v := .int _ _) rfl) ?_
          refine WL_nil ?_
          refine ⟨?_, by repeat (first | with_reducible exact Out.refl _ _ | with_reducible exact Out.mix | refine Out.put rfl ?_ | refine Out.mixin rfl ?_ | exact Out.refl _ _ | exact Out.mix)⟩
          first
            | exact ⟨ids.length - (i + 1), by omega, i + 1, _, _, od ++ [x], _, rfl, by omega, rfl, rfl, hF10', by simp; omega, hQ12, hO12, fun g hg => Or.inr hg⟩
            | exact ⟨ids.length - (i + 1), by omega, i + 1, _, _, od, q, rfl, by omega, rfl, rfl, hF, by omega, hQ10', hO10, fun g hg => Or.inl (hB g hg)⟩
        · have hsub10 : submitR q (rqA x) = (q, 12) := hsub.resolve_right (fun ⟨q', j, _⟩ => ht49 (by rw [he10, j]))
          have hQ10' : QG w (fun b => B b ∨ since w0i w10 b) pq ph w10a q := by rw [hsub10] at hQ10; exact hQ10
          have he12 : e10 = 12 := by rw [he10, hsub10]
          refine W_seq ?_
          refine W_region ?_
          refine op rfl (r_moveV (v := .int _ _) rfl) ?_
          refine op rfl (r_neq rfl rfl) ?_
          refine WL_nil ?_
          refine W_ifp rfl (fun ht60 => ?_) (fun ht60 => ?_)
          · exact absurd he12 ht60
          · refine W_skip ?_
            refine W_region ?_
            refine op rfl (r_moveV (v := .int _ _) rfl) ?_
            refine op rfl (r_add' (r := ((i + 1 : Nat) : Int)) rfl rfl (by rw [wrap_i64 (by omega) (by omega)]; omega)) ?_
            refine op rfl (r_assignV (v := .int _ _) rfl) ?_
            refine WL_nil ?_
            refine ⟨?_, by repeat (first | with_reducible exact Out.refl _ _ | with_reducible exact Out.mix | refine Out.put rfl ?_ | refine Out.mixin rfl ?_ | exact Out.refl _ _ | exact Out.mix)⟩
            first
              | exact ⟨ids.length - (i + 1), by omega, i + 1, _, _, od ++ [x], _, rfl, by omega, rfl, rfl, hF10', by simp; omega, hQ12, hO12, fun g hg => Or.inr hg⟩
              | exact ⟨ids.length - (i + 1), by omega, i + 1, _, _, od, q, rfl, by omega, rfl, rfl, hF, by omega, hQ10', hO10, fun g hg => Or.inl (hB g hg)⟩
      · refine W_exit (blk_hit ?_)
        refine W_seq ?_
        refine W_seq ?_
        refine W_region ?_
        refine op rfl (r_moveV (v := .int .i64 0) rfl) ?_
        refine op rfl (r_neq rfl rfl) ?_
        refine op_false rfl (r_moveV (v := .bool (decide _)) rfl) (fun h => h rfl) ?_
        refine opG_yes rfl rfl rfl rfl rfl (r_moveV (v := hp pq) rfl) ?_
        refine opGCv_yes rfl rfl rfl rfl rfl (r_call Tryd.func19 Tryd.nm19 rfl) (que_waits_spec (hQ'.que.ext hX)) ?_
        rintro v16 w16 ⟨hO16, hE⟩
        replace hX := hX.trans hE
        rw [hF.waits] at hO16
        obtain ⟨A16, c16, rfl, hc16, hr16⟩ := own_frow hO16
        obtain ⟨A17, c17, hve, hc17, hr17⟩ := own_frow hO'
        subst hve
        refine opG_yes rfl rfl rfl rfl rfl (r_moveV (v := .slice _ _ _) rfl) ?_
        refine opGCv_yes rfl rfl rfl rfl rfl (r_call Tryd.func31 Tryd.nm31 rfl) (sameI_spec hr16 (hr17.ext hX) (by omega)) ?_
        rintro v17 w17 ⟨rfl, hE⟩
        replace hX := hX.trans hE
        refine opG_yes rfl rfl rfl rfl rfl (r_notP rfl) ?_
        refine op rfl (r_pickFV (v := .bool _) rfl rfl) ?_
        refine WL_nil ?_
        refine W_ifp rfl (fun ht69 => ?_) (fun ht69 => ?_)
        · exact absurd rfl ht69
        · have hQ17 := hQ'.all hX
          have hO17 := own_fext hO' hX
          refine W_skip ?_
          refine W_seq ?_
          refine W_seq ?_
          refine W_region ?_
          refine op rfl (r_assignV (v := .int _ _) rfl) ?_
          refine WL_nil ?_
          refine W_block ?_
          refine W_loop [4, 11, 12, 13, 14, 15, 70, 71, 72, 73, 74, 75, 76, 77, 78, 79, 80, 81, 82, 83, 84, 85, 86, 87, 88, 89, 90, 91, 92, 93, 94, 95, 96, 97, 98, 99, 100, 101, 102, 103, 104, 105, 106, 107, 108, 109, 110, 111, 112, 113, 114, 115, 116, 117] (fun qq e' w' => ∃ (i : Nat) (B : Nat → Prop) (q : Qs), qq = ps.length - i ∧ i ≤ ps.length ∧ e' 11 = .int .i64 i ∧ FT q od i ∧ QG w B pq ph w' q ∧ Eng.Own (Ty.int .i64) w' nobody w.heap.size 3 (.slice A17 od.length c17) od ∧ (∀ g, (Value.slice A17 od.length c17).ownBlock = some g → B g)) (ps.length) ?_ ?_
          · exact ⟨0, _, _, by omega, by omega, rfl, hF.ft, hQ17, hO17, fun g hg => Or.inl (hB g hg)⟩
          intro k g w' hI
          obtain ⟨i2, B2, q2, hq2, hi2, h11, hT, hQ2', hO2', hB2⟩ := hI
          clear hX
          have hX := Ext.refl w'
          obtain ⟨w1i, hw1i⟩ : ∃ x, x = w' := ⟨_, rfl⟩
          subst hw1i
          refine W_set (i := 11) h11 ?_
          refine W_seq ?_
          refine W_seq ?_
          refine W_region ?_
          refine op rfl (r_moveV (v := .int _ _) rfl) ?_
          refine op rfl (r_moveV (v := .slice _ _ _) rfl) ?_
          refine op rfl (r_len_slice rfl Tryd.underlying74) ?_
          refine op rfl (r_lss rfl rfl) ?_
          refine WL_nil ?_
          refine W_ifp rfl (fun ht73 => ?_) (fun ht73 => ?_)
          · have hlt2 : i2 < ps.length := by omega
            obtain ⟨g2, o2, hAp2, _, _, hc2⟩ := Ty.Row.cell hps hlt2
            obtain ⟨a, q', hst, haid, hT', hask, hasked, hak⟩ := hT.step ps[i2]
            refine W_skip ?_
            refine W_seq ?_
            refine W_block ?_
            refine W_seq ?_
            refine W_region ?_
            refine op rfl (r_moveV (v := hp pq) rfl) ?_
            refine op rfl (r_moveV (v := .slice _ _ _) rfl) ?_
            refine op rfl (r_moveV (v := .int _ _) rfl) ?_
            refine op rfl (r_indexAddr1 rfl rfl hAp2 Tryd.underlying74 Tryd.sz4 (by omega) (by omega)) ?_
            refine op rfl (r_load (v := .bool ps[i2]) rfl Tryd.underlying4 rfl (ext_cell (hQ2'.ext.trans hX) hc2)) ?_
            refine opCv rfl (r_call Tryd.func16 Tryd.nm16 rfl) (stepG hQ2' ps[i2]) ?_
            rintro v19 w19 ⟨hv19, hQ19, hK19⟩
            rw [hst] at hv19 hQ19
            subst hv19
            have hO19 : Eng.Own (Ty.int .i64) w19 nobody w.heap.size 3 (.slice A17 od.length c17) od := hO2'.keep (fun _ q => q.elim) (fun _ h => h) (fun g hg => hK19.same g (Or.inr (hB2 g hg)))
            obtain ⟨A18, c18, hve, hc18, hr18⟩ := own_frow hO19
            simp only [Value.slice.injEq] at hve
            obtain ⟨rfl, -, rfl⟩ := hve
            clear hX
            have hX := Ext.refl w19
            refine op rfl (r_moveV (v := .tuple #[.agg a.vals.toArray, .bool (decide (i2 < od.length))]) rfl) ?_
            refine op rfl (r_extract (vs := [.agg a.vals.toArray, .bool (decide (i2 < od.length))]) rfl rfl) ?_
            refine op rfl (r_extract (vs := [.agg a.vals.toArray, .bool (decide (i2 < od.length))]) rfl rfl) ?_
            refine op_alloc rfl Tryd.zero43 ?_
            intro w19_9 b19_9 E19_9 B19_9 L19_9
            have hG19_9 : w19.heap.size ≤ b19_9 := by have := hX.size; omega
            replace hX := hX.trans E19_9
            refine op_storeRow rfl rfl Tryd.sz43 B19_9 rfl rfl ?_
            intro w19_10 C19_10 BB19_10
            replace hX := hX.chg C19_10 hG19_9
            replace B19_9 := BB19_10
            refine op rfl (r_assignV (v := .bool (decide (i2 < od.length))) rfl) ?_
            refine WL_nil ?_
            refine W_seq ?_
            refine W_seq ?_
            refine W_drawF (W0 := w19) (fun b : Nat => b = b19_9 ∨ False) Tryd.wd rfl ?_
            intro wd20 hD
            replace B19_9 := Blk.ext B19_9 hD
            replace hX := hX.trans hD
            have DB19_9 := B19_9
            have hS : Ext w19 wd20 ∧ Same (fun b : Nat => b = b19_9 ∨ False) wd20 wd20 := ⟨hX, fun _ _ => rfl⟩
            refine A_take (i := 0) rfl (by kernel_rfl) (by kernel_rfl) (by kernel_rfl) rfl hS (fun _ hw => r_moveV (v := .bool (decide (i2 < od.length))) rfl) ?_
            refine A_take (i := 1) rfl (by kernel_rfl) (by kernel_rfl) (by kernel_rfl) rfl hS (fun _ hw => r_moveV (v := .int _ _) rfl) ?_
            refine A_take (i := 2) rfl (by kernel_rfl) (by kernel_rfl) (by kernel_rfl) rfl hS (fun _ hw => r_moveV (v := .slice _ _ _) rfl) ?_
            refine A_take (i := 3) rfl (by kernel_rfl) (by kernel_rfl) (by kernel_rfl) rfl hS (fun _ hw => r_len_slice rfl Tryd.underlying49) ?_
            refine A_take (i := 4) rfl (by kernel_rfl) (by kernel_rfl) (by kernel_rfl) rfl hS (fun _ hw => r_lss rfl rfl) ?_
            refine A_take (i := 5) rfl (by kernel_rfl) (by kernel_rfl) (by kernel_rfl) rfl hS (fun _ hw => rb_neq rfl rfl Tryd.underlying4) ?_
            refine A_false (i := 6) rfl (by kernel_rfl) (by kernel_rfl) (by kernel_rfl) rfl hS (fun _ _ => r_moveV (v := .bool (decide _)) rfl) (by simp) ?_
            refine A_takeG (i := 7) rfl (by kernel_rfl) (by kernel_rfl) (by kernel_rfl) rfl hS rfl rfl rfl rfl (fun _ hw => r_moveV (v := .bool (decide (i2 < od.length))) rfl) ?_
            refine A_splitG (i := 8) rfl (by kernel_rfl) (by kernel_rfl) (by kernel_rfl) rfl hS rfl rfl rfl rfl (fun _ _ => r_moveV (v := .bool (decide _)) rfl) (fun hg93 => ?_) (fun hg93 => ?_)
            · obtain ⟨g3, o3, hA3, _, _, hc3⟩ := Ty.Row.cell hr18 hg93
              refine A_takeG (i := 9) rfl (by kernel_rfl) (by kernel_rfl) (by kernel_rfl) rfl hS rfl rfl rfl rfl (fun _ hw => r_fieldAddr rfl Tryd.fld43_0 rfl) ?_
              refine A_takeG (i := 10) rfl (by kernel_rfl) (by kernel_rfl) (by kernel_rfl) rfl hS rfl rfl rfl rfl (fun _ hw => r_load (v := .int .i64 a.id) rfl Tryd.underlying3 rfl (Blk.cell (Blk.at DB19_9 (hw.2 _ (Or.inl rfl))) rfl)) ?_
              refine A_takeG (i := 11) rfl (by kernel_rfl) (by kernel_rfl) (by kernel_rfl) rfl hS rfl rfl rfl rfl (fun _ hw => r_moveV (v := .slice _ _ _) rfl) ?_
              refine A_takeG (i := 12) rfl (by kernel_rfl) (by kernel_rfl) (by kernel_rfl) rfl hS rfl rfl rfl rfl (fun _ hw => r_moveV (v := .int _ _) rfl) ?_
              refine A_takeG (i := 13) rfl (by kernel_rfl) (by kernel_rfl) (by kernel_rfl) rfl hS rfl rfl rfl rfl (fun _ hw => r_indexAddr1 rfl rfl hA3 Tryd.underlying49 Tryd.sz3 (by omega) (by omega)) ?_
              refine A_takeG (i := 14) rfl (by kernel_rfl) (by kernel_rfl) (by kernel_rfl) rfl hS rfl rfl rfl rfl (fun _ hw => r_load (v := .int .i64 od[i2]) rfl Tryd.underlying3 rfl (ext_cell hw.1 hc3)) ?_
              refine A_takeG (i := 15) rfl (by kernel_rfl) (by kernel_rfl) (by kernel_rfl) rfl hS rfl rfl rfl rfl (fun _ hw => r_neq rfl rfl) ?_
              refine A_takeG (i := 16) rfl (by kernel_rfl) (by kernel_rfl) (by kernel_rfl) rfl hS rfl rfl rfl rfl (fun _ hw => r_pickTV (v := .bool _) rfl rfl) ?_
              refine A_take (i := 17) rfl (by kernel_rfl) (by kernel_rfl) (by kernel_rfl) rfl hS (fun _ hw => r_pickFV (v := .bool _) rfl rfl) ?_
              refine A_done (by kernel_rfl) ?_
              refine W_ifp rfl (fun ht102 => ?_) (fun ht102 => ?_)
              · exact absurd (haid hg93) ht102
              · refine W_skip ?_
                refine W_seq ?_
                refine W_region ?_
                refine op rfl (r_moveV (v := hp pq) rfl) ?_
                refine op rfl (r_fieldAddr rfl Tryd.fld43_0 rfl) ?_
                refine op rfl (r_load (v := .int .i64 a.id) rfl Tryd.underlying3 rfl (Blk.cell B19_9 rfl)) ?_
                refine opCv rfl (r_call Tryd.func32 Tryd.nm32 rfl) (que_ask_spec (hQ19.que.ext hX) a.id hak) ?_
                rintro v22 w22 ⟨hv22, hE⟩
                replace B19_9 := Blk.ext B19_9 hE
                replace hX := hX.trans hE
                rw [hask, hasked] at hv22
                subst hv22
                refine op rfl (r_moveV (v := .tuple #[.agg a.vals.toArray, .bool (decide (i2 < od.length))]) rfl) ?_
                refine op rfl (r_extract (vs := [.agg a.vals.toArray, .bool (decide (i2 < od.length))]) rfl rfl) ?_
                refine op rfl (r_extract (vs := [.agg a.vals.toArray, .bool (decide (i2 < od.length))]) rfl rfl) ?_
                refine op_alloc rfl Tryd.zero43 ?_
                intro w22_7 b22_7 E22_7 B22_7 L22_7
                have hG22_7 : w19.heap.size ≤ b22_7 := by have := hX.size; omega
                have hNb19_9_22_7 : b19_9 ≠ b22_7 := by have := Blk.lt B19_9; omega
                replace B19_9 := Blk.ext B19_9 E22_7
                replace hX := hX.trans E22_7
                refine op_storeRow rfl rfl Tryd.sz43 B22_7 rfl rfl ?_
                intro w22_8 C22_8 BB22_8
                replace B19_9 := Chg.blk C22_8 B19_9 hNb19_9_22_7
                replace hX := hX.chg C22_8 hG22_7
                replace B22_7 := BB22_8
                refine op rfl (r_assignV (v := .bool (decide (i2 < od.length))) rfl) ?_
                refine WL_nil ?_
                refine W_seq ?_
                refine W_region ?_
                refine op rfl (r_moveV (v := .bool (decide (i2 < od.length))) rfl) ?_
                refine op rfl (r_moveV (v := .bool (decide (i2 < od.length))) rfl) ?_
                refine op rfl (rb_neq rfl rfl Tryd.underlying4) ?_
                refine op_false rfl (r_moveV (v := .bool (decide _)) rfl) (by simp) ?_
                refine opG_yes rfl rfl rfl rfl rfl (r_loadRow (c := a.vals.toArray) (by rfl) B19_9 Tryd.underlying43 rfl Tryd.sz43) ?_
                refine opG_yes rfl rfl rfl rfl rfl (r_loadRow (c := a.vals.toArray) (by rfl) B22_7 Tryd.underlying43 rfl Tryd.sz43) ?_
                refine opG_yes rfl rfl rfl rfl rfl (ri_neq Tryd.ints43 (xs := [a.id, a.kind, a.rev, a.e]) (ys := [a.id, a.kind, a.rev, a.e]) rfl rfl rfl rfl) ?_
                refine op rfl (r_pickFV (v := .bool _) rfl rfl) ?_
                refine WL_nil ?_
                refine W_ifp rfl (fun ht117 => ?_) (fun ht117 => ?_)
                · exact absurd rfl ht117
                · refine W_skip ?_
                  refine W_region ?_
                  refine op rfl (r_moveV (v := .int _ _) rfl) ?_
                  refine op rfl (r_add' (r := ((i2 + 1 : Nat) : Int)) rfl rfl (by rw [wrap_i64 (by omega) (by omega)]; omega)) ?_
                  refine op rfl (r_assignV (v := .int _ _) rfl) ?_
                  refine WL_nil ?_
                  refine ⟨?_, by repeat (first | with_reducible exact Out.refl _ _ | with_reducible exact Out.mix | refine Out.put rfl ?_ | refine Out.mixin rfl ?_ | exact Out.refl _ _ | exact Out.mix)⟩
                  exact ⟨ps.length - (i2 + 1), by omega, i2 + 1, _, _, rfl, by omega, rfl, hT', hQ19.all hX, own_fext hO19 hX, fun g hg => Or.inl (hB2 g hg)⟩
            · refine A_skip (i := 9) rfl (by kernel_rfl) (by kernel_rfl) (by kernel_rfl) rfl hS rfl rfl rfl rfl ?_
              refine A_skip (i := 10) rfl (by kernel_rfl) (by kernel_rfl) (by kernel_rfl) rfl hS rfl rfl rfl rfl ?_
              refine A_skip (i := 11) rfl (by kernel_rfl) (by kernel_rfl) (by kernel_rfl) rfl hS rfl rfl rfl rfl ?_
              refine A_skip (i := 12) rfl (by kernel_rfl) (by kernel_rfl) (by kernel_rfl) rfl hS rfl rfl rfl rfl ?_
              refine A_skip (i := 13) rfl (by kernel_rfl) (by kernel_rfl) (by kernel_rfl) rfl hS rfl rfl rfl rfl ?_
              refine A_skip (i := 14) rfl (by kernel_rfl) (by kernel_rfl) (by kernel_rfl) rfl hS rfl rfl rfl rfl ?_
              refine A_skip (i := 15) rfl (by kernel_rfl) (by kernel_rfl) (by kernel_rfl) rfl hS rfl rfl rfl rfl ?_
              refine A_takeG (i := 16) rfl (by kernel_rfl) (by kernel_rfl) (by kernel_rfl) rfl hS rfl rfl rfl rfl (fun _ hw => r_pickFV (v := .bool _) rfl rfl) ?_
              refine A_take (i := 17) rfl (by kernel_rfl) (by kernel_rfl) (by kernel_rfl) rfl hS (fun _ hw => r_pickFV (v := .bool _) rfl rfl) ?_
              refine A_done (by kernel_rfl) ?_
              refine W_else rfl ?_
              refine W_skip ?_
              refine W_seq ?_
              refine W_region ?_
              refine op rfl (r_moveV (v := hp pq) rfl) ?_
              refine op rfl (r_fieldAddr rfl Tryd.fld43_0 rfl) ?_
              refine op rfl (r_load (v := .int .i64 a.id) rfl Tryd.underlying3 rfl (Blk.cell B19_9 rfl)) ?_
              refine opCv rfl (r_call Tryd.func32 Tryd.nm32 rfl) (que_ask_spec (hQ19.que.ext hX) a.id hak) ?_
              rintro v22 w22 ⟨hv22, hE⟩
              replace B19_9 := Blk.ext B19_9 hE
              replace hX := hX.trans hE
              rw [hask, hasked] at hv22
              subst hv22
              refine op rfl (r_moveV (v := .tuple #[.agg a.vals.toArray, .bool (decide (i2 < od.length))]) rfl) ?_
              refine op rfl (r_extract (vs := [.agg a.vals.toArray, .bool (decide (i2 < od.length))]) rfl rfl) ?_
              refine op rfl (r_extract (vs := [.agg a.vals.toArray, .bool (decide (i2 < od.length))]) rfl rfl) ?_
              refine op_alloc rfl Tryd.zero43 ?_
              intro w22_7 b22_7 E22_7 B22_7 L22_7
              have hG22_7 : w19.heap.size ≤ b22_7 := by have := hX.size; omega
              have hNb19_9_22_7 : b19_9 ≠ b22_7 := by have := Blk.lt B19_9; omega
              replace B19_9 := Blk.ext B19_9 E22_7
              replace hX := hX.trans E22_7
              refine op_storeRow rfl rfl Tryd.sz43 B22_7 rfl rfl ?_
              intro w22_8 C22_8 BB22_8
              replace B19_9 := Chg.blk C22_8 B19_9 hNb19_9_22_7
              replace hX := hX.chg C22_8 hG22_7
              replace B22_7 := BB22_8
              refine op rfl (r_assignV (v := .bool (decide (i2 < od.length))) rfl) ?_
              refine WL_nil ?_
              refine W_seq ?_
              refine W_region ?_
              refine op rfl (r_moveV (v := .bool (decide (i2 < od.length))) rfl) ?_
              refine op rfl (r_moveV (v := .bool (decide (i2 < od.length))) rfl) ?_
              refine op rfl (rb_neq rfl rfl Tryd.underlying4) ?_
              refine op_false rfl (r_moveV (v := .bool (decide _)) rfl) (by simp) ?_
              refine opG_yes rfl rfl rfl rfl rfl (r_loadRow (c := a.vals.toArray) (by rfl) B19_9 Tryd.underlying43 rfl Tryd.sz43) ?_
              refine opG_yes rfl rfl rfl rfl rfl (r_loadRow (c := a.vals.toArray) (by rfl) B22_7 Tryd.underlying43 rfl Tryd.sz43) ?_
              refine opG_yes rfl rfl rfl rfl rfl (ri_neq Tryd.ints43 (xs := [a.id, a.kind, a.rev, a.e]) (ys := [a.id, a.kind, a.rev, a.e]) rfl rfl rfl rfl) ?_
              refine op rfl (r_pickFV (v := .bool _) rfl rfl) ?_
              refine WL_nil ?_
              refine W_ifp rfl (fun ht117 => ?_) (fun ht117 => ?_)
              · exact absurd rfl ht117
              · refine W_skip ?_
                refine W_region ?_
                refine op rfl (r_moveV (v := .int _ _) rfl) ?_
                refine op rfl (r_add' (r := ((i2 + 1 : Nat) : Int)) rfl rfl (by rw [wrap_i64 (by omega) (by omega)]; omega)) ?_
                refine op rfl (r_assignV (v := .int _ _) rfl) ?_
                refine WL_nil ?_
                refine ⟨?_, by repeat (first | with_reducible exact Out.refl _ _ | with_reducible exact Out.mix | refine Out.put rfl ?_ | refine Out.mixin rfl ?_ | exact Out.refl _ _ | exact Out.mix)⟩
                exact ⟨ps.length - (i2 + 1), by omega, i2 + 1, _, _, rfl, by omega, rfl, hT', hQ19.all hX, own_fext hO19 hX, fun g hg => Or.inl (hB2 g hg)⟩
          · refine W_exit (blk_hit ?_)
            refine W_seq ?_
            refine W_region ?_
            refine op rfl (r_moveV (v := hp ph) rfl) ?_
            refine opCv rfl (r_call Tryd.func17 Tryd.nm17 rfl) (head_spec (hQ2'.que.hist.ext hX)) ?_
            rintro v25 w25 ⟨rfl, hE⟩
            replace hX := hX.trans hE
            refine op rfl (r_leq rfl rfl) ?_
            refine op_true rfl (r_moveV (v := .bool (decide _)) rfl) (by rcases hT.H with k | k <;> rw [k] <;> simp) ?_
            refine opGCv_yes rfl rfl rfl rfl rfl (r_call Tryd.func12 Tryd.nm12 rfl) (known13_spec _) ?_
            rintro v26 w26 ⟨rfl, hE⟩
            replace hX := hX.trans hE
            refine op rfl (r_pickTV (v := .bool _) rfl rfl) ?_
            refine op rfl (r_assignV (v := .bool _) rfl) ?_
            refine WL_nil ?_
            refine W_ret (finX_ret ?_)
            refine fin1 ?_
            exact ⟨_, rfl, by first | rfl | exact (bool_tt trivial).symm, by first | exact hX | exact hQ2'.ext.trans hX⟩
theorem queueFirst_row (W : World) (A0 : Option Addr) (c0 : Nat) (l0 : List UInt8) (h0 : l0.length ≤ c0) (b0 : l0.length ≤ big) (r0 : Ty.byte.Row W (old W) A0 l0) (A1 : Option Addr) (c1 : Nat) (l1 : List Bool) (h1 : l1.length ≤ c1) (b1 : l1.length ≤ big) (r1 : Ty.bool.Row W (old W) A1 l1) :
    Calls Tryd.prog 8 #[.slice A0 l0.length c0, .slice A1 l1.length c1] W (fun e W' => ∃ v, e = .returned v ∧ v = .bool true ∧ Ext W W') :=
  queueFirst_walk r0 b0 r1 b1
end Go.Proofs.YtmedmajdoecjfaaDoor
