/-
  The walks of package journal: records.
-/
import Derived.Test.YtlidigdlcjhkfaaFacts
import Derived.Test.YtlidigdlcjhkfaaJnlW
namespace Go.Proofs.Ytlidigdlcjhkfaa
open Go Go.Eng Go.RowKit Go.Proofs
set_option linter.unusedVariables false
set_option linter.unusedSimpArgs false
set_option maxHeartbeats 2000000

theorem own_tag {α : Type} {T : Ty α} {w : World} {F : Nat → Prop} {B : Nat} {e : TypeId} {v : Value} {l : List α} (h : Eng.Own T w F B e v l) {g : Nat} (hg : v.ownBlock = some g) : ∃ c, Blk w g c e := by
  rcases h with ⟨rfl, _⟩ | ⟨g', cap, c, xs, rfl, h1, h2, _⟩
  · simp [Value.ownBlock] at hg
  · simp [Value.ownBlock] at hg; subst hg; exact ⟨c, h2⟩
theorem Fb.ne {α : Type} {T : Ty α} {w w' : World} {F : Nat → Prop} {B : Nat} {v : Value} {l : List α} {b : Nat} (hb : Fb w w' b) (h : Eng.Own T w' F B 23 v l) : v.ownBlock ≠ some b := fun q => by
  obtain ⟨c, hc⟩ := own_tag h q
  obtain ⟨_, c', fr, hb'⟩ := hb
  unfold Blk at hc
  rw [hc] at hb'
  simp at hb'
/-- Lists of bytes that are new. -/
abbrev LB (w w' : World) (u : Value) (l : List (List UInt8)) : Prop := Eng.Own Ty.byte.slice w' (Fb w w') w.heap.size 23 u l
theorem LB.ext {w w1 w2 : World} {u : Value} {l : List (List UInt8)} (h : LB w w1 u l) (he : Ext w1 w2) : LB w w2 u l :=
  h.keep (fun b hb => he.block b hb.lt.2) (fun b hb => hb.ext he) (fun g hg => he.block g (h.lt hg).2)
theorem LB.add {w w1 w2 : World} {u : Value} {l : List (List UInt8)} {g c : Nat} {A : Option Addr} {x : List UInt8} {t : TypeId} (h : LB w w1 u l) (he : Ext w1 w2) (hw : w.heap.size ≤ w1.heap.size) (hB : Blk w2 g #[.slice A x.length c] t) (hc : x.length ≤ c) (hb : x.length ≤ big) (hx : Ty.byte.Row w2 (Fb w w2) A x) (hl : l.length ≤ 1099511627776) :
    ∃ v' w', (Builtin.append_ #[22, 22] 22 #[u, .slice (some ⟨g, 0, none⟩) 1 1]).run Try.prog w2 = .ok v' w' ∧ LB w w' v' (l ++ [x]) ∧ Gro u.ownBlock w2 w' ∧ (∀ k, u.ownBlock = some k → w.heap.size ≤ k) := by
  have h2 := h.ext he
  obtain ⟨v', w', hr, hO, hG, _⟩ := run_append (T := Ty.byte.slice) (F := Fb w w2) (P := Try.prog) (t := 22) (ty := 22) (m := [x]) (c := 1) (A := some ⟨g, 0, none⟩) (B := w.heap.size) Try.underlying22 Try.sz23 Try.by23 Try.zero23 rfl h2 (Src.blk (c := [.slice A x.length c]) hB ⟨A, c, rfl, hc, hb, hx⟩) (fun b hb => ⟨hb.lt.2, hb.ne h2⟩) (by simp only [List.length_singleton]; omega) (by simp only [List.length_singleton]; omega) (Nat.le_trans hw he.size)
  refine ⟨v', w', hr, hO.mono (fun b hb => ?_), hG, fun k hk => (h2.lt hk).1⟩
  have hne := hb.ne h2
  obtain ⟨h1, c', fr, h3⟩ := hb
  exact ⟨h1, c', fr, by rw [hG.block b (heap_lt h3) hne]; exact h3⟩
theorem records_spec (A : Option Addr) (c : Nat) (b : List UInt8) (s : Nat) (w : World) (hbc : b.length ≤ c) (hb : b.length ≤ 1099511627776) (hA : Bytes w A b) :
    Calls Try.prog 27 #[.slice A b.length c, .int .u64 s] w (fun en w' => ∃ v, en = .returned v ∧ ∃ u, v = .tuple #[u, .int .i64 (Recs b s).2] ∧ Ext w w' ∧ LB w w' u (Recs b s).1) := by
  refine calls' (n := 44) (rs := #[.tmp 4, .tmp 5]) (l := [.slice A b.length c, .int .u64 s]) Try.func27 rfl rfl rfl rfl rfl ?_
  have hX := Ext.refl w
  refine W_seq ?_
  refine W_region ?_
  refine op rfl (r_assignV (v := .slice _ _ _) rfl) ?_
  refine op rfl (r_assignV (v := .int _ _) rfl) ?_
  refine WL_nil ?_
  refine W_scope ?_
  refine W_seq ?_
  refine W_region ?_
  refine op rfl (r_assignV (v := .slice _ _ _) rfl) ?_
  refine WL_nil ?_
  refine W_seq ?_
  refine W_region ?_
  refine op rfl (r_assignV (v := .int _ _) rfl) ?_
  refine WL_nil ?_
  refine W_seq ?_
  refine W_label ?_
  refine W_seq ?_
  refine W_block ?_
  refine W_loop [6, 7, 8, 9, 10, 11, 12, 13, 14, 15, 16, 17, 18, 19, 20, 21, 22, 23, 24, 25, 26, 27, 28, 29, 30, 31, 32, 33, 34, 35, 36, 37, 38, 39, 40, 41] (fun q e' w' => ∃ (rl : List (List UInt8)) (p : Nat) (u : Value), q = b.length - p ∧ RTo b s rl p ∧ e' 7 = .int .i64 p ∧ e' 6 = u ∧ Ext w w' ∧ LB w w' u rl) (b.length) ?_ ?_
  · exact ⟨[], 0, .slice none 0 0, by omega, .nil, rfl, rfl, hX, Own.nil⟩
  intro k g w' hI
  obtain ⟨rl, p, u, hq, hRT, h7, h6, hX', hLB⟩ := hI
  clear hX
  have hX := hX'
  clear hX'
  have hX0 := hX
  have hple := hRT.le
  have hplen := hRT.len
  have hdl : (b.drop p).length = b.length - p := List.length_drop
  have hRd : ∀ u, Ext w u → Ty.byte.Row u (old u) (cutA A c p Ty.byte.sz) (b.drop p) := fun u he => (hA.ext he).drop hbc
  have hnl := Frame.next_le (b.drop p)
  have hnm := numd_len (b.drop p)
  have NS := numbered_spec (cutA A c p Ty.byte.sz) (c - p) (b.drop p) w' (by omega) (bigs _ (by omega)) (hRd _ hX)
  rw [hdl] at NS
  refine W_set (i := 7) h7 ?_
  refine W_set (i := 6) h6 ?_
  refine W_block ?_
  refine W_seq ?_
  refine W_region ?_
  refine op rfl (r_moveV (v := .slice _ _ _) rfl) ?_
  refine op rfl (r_moveV (v := .int _ _) rfl) ?_
  refine op rfl (r_sliceLo (i := p) rfl rfl Try.underlying23 Try.sz5 (by omega)) ?_
  refine opCv rfl (r_call Try.func45 Try.nm45 rfl) (NS) ?_
  rintro v w3 ⟨A2, c2, rfl, hE, hc2, hr2⟩
  replace hX := hX.trans hE
  have hE3 := hE
  refine op rfl (r_moveV (v := .tuple #[.int .u64 (numd (b.drop p)).1, .slice A2 (numd (b.drop p)).2.1.length c2, .bool (decide ((numd (b.drop p)).2.2 = true))]) rfl) ?_
  refine op rfl (r_extract (vs := [.int .u64 (numd (b.drop p)).1, .slice A2 (numd (b.drop p)).2.1.length c2, .bool (decide ((numd (b.drop p)).2.2 = true))]) rfl rfl) ?_
  refine op rfl (r_extract (vs := [.int .u64 (numd (b.drop p)).1, .slice A2 (numd (b.drop p)).2.1.length c2, .bool (decide ((numd (b.drop p)).2.2 = true))]) rfl rfl) ?_
  refine op rfl (r_extract (vs := [.int .u64 (numd (b.drop p)).1, .slice A2 (numd (b.drop p)).2.1.length c2, .bool (decide ((numd (b.drop p)).2.2 = true))]) rfl rfl) ?_
  refine op rfl (r_assignV (v := .int .u64 (numd (b.drop p)).1) rfl) ?_
  refine op rfl (r_assignV (v := .slice A2 (numd (b.drop p)).2.1.length c2) rfl) ?_
  refine op rfl (r_assignV (v := .bool (decide ((numd (b.drop p)).2.2 = true))) rfl) ?_
  refine WL_nil ?_
  refine W_seq ?_
  refine W_seq ?_
  refine W_region ?_
  refine op rfl (r_moveV (v := .bool (decide ((numd (b.drop p)).2.2 = true))) rfl) ?_
  refine op rfl (r_notP rfl) ?_
  refine op_split rfl (r_moveV (v := .bool (decide _)) rfl) (fun hg23 => ?_) (fun hg23 => ?_)
  · refine opG_no rfl rfl rfl rfl rfl ?_
    refine opG_no rfl rfl rfl rfl rfl ?_
    refine opG_no rfl rfl rfl rfl rfl ?_
    refine op rfl (r_pickTV (v := .bool _) rfl rfl) ?_
    refine WL_nil ?_
    refine W_then rfl ?_
    refine W_exit (blk_miss rfl (blk_hit ?_))
    refine W_seq ?_
    refine W_region ?_
    refine op rfl (r_moveV (v := u) rfl) ?_
    refine op rfl (r_moveV (v := .int _ _) rfl) ?_
    refine op rfl (r_assignV (v := u) rfl) ?_
    refine op rfl (r_assignV (v := .int _ _) rfl) ?_
    refine WL_nil ?_
    refine W_ret (scp_ret (finX_ret ?_))
    refine fin2 ?_
    have e : Recs b s = (rl, p) := hRT.done (by first | exact fun q => hg23 q.1 | exact fun q => by have := q.2; omega)
    rw [e]
    exact ⟨_, rfl, u, rfl, hX, hLB.ext hE3⟩
  · refine opG_yes rfl rfl rfl rfl rfl (r_moveV (v := .int .u64 (numd (b.drop p)).1) rfl) ?_
    refine opG_yes rfl rfl rfl rfl rfl (r_moveV (v := .int _ _) rfl) ?_
    refine opG_yes rfl rfl rfl rfl rfl (r_neq rfl rfl) ?_
    refine op rfl (r_pickFV (v := .bool _) rfl rfl) ?_
    refine WL_nil ?_
    refine W_ifp rfl (fun ht27 => ?_) (fun ht27 => ?_)
    · refine W_exit (blk_miss rfl (blk_hit ?_))
      refine W_seq ?_
      refine W_region ?_
      refine op rfl (r_moveV (v := u) rfl) ?_
      refine op rfl (r_moveV (v := .int _ _) rfl) ?_
      refine op rfl (r_assignV (v := u) rfl) ?_
      refine op rfl (r_assignV (v := .int _ _) rfl) ?_
      refine WL_nil ?_
      refine W_ret (scp_ret (finX_ret ?_))
      refine fin2 ?_
      have e : Recs b s = (rl, p) := hRT.done (by first | exact fun q => hg23 q.1 | exact fun q => by have := q.2; omega)
      rw [e]
      exact ⟨_, rfl, u, rfl, hX, hLB.ext hE3⟩
    · have hok : Rok (b.drop p) s := ⟨by simpa using hg23, by omega⟩
      have hnx := rok_next hok
      refine W_skip ?_
      refine W_seq ?_
      refine W_region ?_
      refine op rfl (r_moveV (v := u) rfl) ?_
      refine op rfl (r_moveV (v := .slice A2 (numd (b.drop p)).2.1.length c2) rfl) ?_
      refine op_newS rfl (r_buildSlice (vs := [.slice _ _ _]) Try.underlying22 Try.sz23 Try.zero23 rfl rfl rfl) ?_
      intro w5_2 b5_2 E5_2 B5_2 L5_2
      have hG5_2 : w.heap.size ≤ b5_2 := by have := hX.size; omega
      replace hX := hX.trans E5_2
      have hr2' : Ty.byte.Row w5_2 (Fb w w5_2) A2 (numd (b.drop p)).2.1 := hr2.keep (fun b hb => E5_2.block b hb.lt.2) (fun b hb => (hb.pre hX0).ext E5_2)
      obtain ⟨v5, w5, hr5, hLB5, hG5, hk5⟩ := hLB.add (hE3.trans E5_2) hX0.size B5_2 hc2 (bigs _ (by omega)) hr2' (by omega)
      have hX5 : Ext w w5 := hX.gro hG5 hX.size hk5
      replace hX := hX5
      refine op rfl (r_append rfl rfl hr5) ?_
      have NX := next_spec (cutA A c p Ty.byte.sz) (c - p) (b.drop p) w5 (by omega) (bigs _ (by omega)) (hRd _ hX)
      rw [hdl] at NX
      refine op rfl (r_assignV (v := v5) rfl) ?_
      refine WL_nil ?_
      refine W_seq ?_
      refine W_region ?_
      refine op rfl (r_moveV (v := .slice _ _ _) rfl) ?_
      refine op rfl (r_moveV (v := .int _ _) rfl) ?_
      refine op rfl (r_sliceLo (i := p) rfl rfl Try.underlying23 Try.sz5 (by omega)) ?_
      refine opCv rfl (r_call Try.func46 Try.nm46 rfl) (NX) ?_
      rintro v w6 ⟨u6, rfl, hE, hO6⟩
      replace hX := hX.trans hE
      have hE6 := hE
      refine op rfl (r_moveV (v := .tuple #[u6, .int .i64 (Frame.next (b.drop p)).2]) rfl) ?_
      refine op rfl (r_extract (vs := [u6, .int .i64 (Frame.next (b.drop p)).2]) rfl rfl) ?_
      refine op rfl (r_extract (vs := [u6, .int .i64 (Frame.next (b.drop p)).2]) rfl rfl) ?_
      refine op rfl (r_assignV (v := u6) rfl) ?_
      refine op rfl (r_assignV (v := .int .i64 (Frame.next (b.drop p)).2) rfl) ?_
      refine WL_nil ?_
      refine W_region ?_
      refine op rfl (r_moveV (v := .int _ _) rfl) ?_
      refine op rfl (r_moveV (v := .int .i64 (Frame.next (b.drop p)).2) rfl) ?_
      refine op rfl (r_add' (r := ((p + (Frame.next (b.drop p)).2 : Nat) : Int)) rfl rfl (by rw [wrap_i64 (by omega) (by omega)]; omega)) ?_
      refine op rfl (r_assignV (v := .int _ _) rfl) ?_
      refine WL_nil ?_
      refine ⟨?_, by repeat (first | with_reducible exact Out.refl _ _ | with_reducible exact Out.mix | refine Out.put rfl ?_ | refine Out.mixin rfl ?_ | exact Out.refl _ _ | exact Out.mix)⟩
      refine ⟨b.length - (p + (Frame.next (b.drop p)).2), by omega, rl ++ [(numd (b.drop p)).2.1], p + (Frame.next (b.drop p)).2, v5, rfl, .snoc hRT hok, rfl, rfl, hX, hLB5.ext hE6⟩
end Go.Proofs.Ytlidigdlcjhkfaa
