/-
  Whenever power is lost: the walks.
-/
import Derived.Test.YtlidigdlcjhkfaaFacts
import Derived.Test.YtlidigdlcjhkfaaJnlN
import Derived.Test.YtlidigdlcjhkfaaJnlD
import Derived.Test.YtlidigdlcjhkfaaDiskC
namespace Go.Proofs.Ytlidigdlcjhkfaa
open Go Go.Eng Go.RowKit Go.Proofs
set_option linter.unusedVariables false
set_option linter.unusedSimpArgs false
set_option maxHeartbeats 8000000
set_option maxRecDepth 20000

structure JDo where
  k : Int
  n : Int
  b : List UInt8
def jdoF (o : JDo) : Int × Int × List UInt8 := (o.k, o.n, o.b)
def jdoG (x : Int × Int × List UInt8) : JDo := ⟨x.1, x.2.1, x.2.2⟩
abbrev jdoT : Ty JDo := ((Ty.int .i64).pair ((Ty.int .i64).pair Ty.byte.slice)).iso jdoF
theorem jdo_cells {w : World} {A : Option Addr} {l : List JDo} (h : jdoT.Row w (old w) A l) {i : Nat} (hi : i < l.length) :
    ∃ g off Ab cb, A = some ⟨g, off, none⟩ ∧ l[i].b.length ≤ cb ∧ l[i].b.length ≤ big ∧ Ty.byte.Row w (old w) Ab l[i].b ∧ ∀ w', Ext w w' → ∀ q, q < 3 → w'.cell? ⟨g, off + i * 3 + q, none⟩ = [Value.int .i64 l[i].k, .int .i64 l[i].n, .slice Ab l[i].b.length cb][q]? := by
  obtain ⟨g, off, xs, hA, hg, ⟨c1, d1, rfl, ⟨rfl, _⟩, c2, d2, rfl, ⟨rfl, _⟩, Ab, cb, rfl, h1, h2, h3⟩, hc⟩ := h.cells hi
  refine ⟨g, off, Ab, cb, hA, h1, h2, h3, fun w' he q hq => ?_⟩
  rw [Below.cell he hg]
  exact hc q hq
def jlong (l : List JDo) : Nat := (l.map fun o => 1 + o.b.length).sum
theorem jlong_succ {l : List JDo} {i : Nat} (h : i < l.length) : jlong (l.take (i + 1)) = jlong (l.take i) + 1 + l[i].b.length := by
  unfold jlong
  rw [List.take_succ_eq_append_getElem h]
  simp only [List.map_append, List.sum_append, List.map_cons, List.map_nil, List.sum_cons, List.sum_nil]; omega
theorem jlong_le (l : List JDo) (i : Nat) : jlong (l.take i) ≤ jlong l := by
  unfold jlong
  have := congrArg (fun x => (x.map fun o : JDo => 1 + o.b.length).sum) (List.take_append_drop i l)
  simp only [List.map_append, List.sum_append] at this
  omega
theorem jdo_big {w : World} {A : Option Addr} {l : List JDo} (h : jdoT.Row w (old w) A l) : ∀ i, i ≤ l.length → jlong (l.take i) ≤ i * 140737488355329 := by
  intro i
  induction i with
  | zero => intro _; simp [jlong]
  | succ i ih =>
    intro hi
    obtain ⟨_, _, _, _, _, _, h2, _⟩ := jdo_cells h (i := i) (by omega)
    have h2' : l[i].b.length ≤ 140737488355328 := h2
    have := ih (by omega)
    rw [jlong_succ (by omega)]; omega
theorem jlong_spec (A : Option Addr) (c : Nat) (l : List JDo) (w : World) (hA : jdoT.Row w (old w) A l) (hl : l.length ≤ 30) : Calls Try.prog 14 #[.slice A l.length c] w (fun en w' => ∃ v, en = .returned v ∧ v = .int .i64 (jlong l) ∧ Ext w w') := by
  have hbig := jdo_big hA
  refine calls' (n := 21) (rs := #[.tmp 2]) (l := [.slice A l.length c]) Try.func14 rfl rfl rfl rfl rfl ?_
  have hX := Ext.refl w
  refine W_seq ?_
  refine W_region ?_
  refine op rfl (r_assignV (v := .int _ _) rfl) ?_
  refine WL_nil ?_
  refine W_seq ?_
  refine W_region ?_
  refine op rfl (r_assignV (v := .int _ _) rfl) ?_
  refine WL_nil ?_
  refine W_seq ?_
  refine W_seq ?_
  refine W_region ?_
  refine op rfl (r_assignV (v := .int _ _) rfl) ?_
  refine WL_nil ?_
  refine W_block ?_
  refine W_loop [3, 4, 5, 6, 7, 8, 9, 10, 11, 12, 13, 14, 15, 16, 17, 18, 19] (fun q e' w' => ∃ i : Nat, q = l.length - i ∧ i ≤ l.length ∧ e' 4 = .int .i64 i ∧ e' 3 = .int .i64 (jlong (l.take i) : Nat) ∧ Ext w w') (l.length) ?_ ?_
  · exact ⟨0, by omega, by omega, rfl, rfl, hX⟩
  intro k g w' hI
  obtain ⟨i, hq, hi, h4, h3, hX'⟩ := hI
  clear hX
  have hX := hX'
  clear hX'
  have hle := hbig i hi
  refine W_set (i := 4) h4 ?_
  refine W_set (i := 3) h3 ?_
  refine W_seq ?_
  refine W_seq ?_
  refine W_region ?_
  refine op rfl (r_moveV (v := .int _ _) rfl) ?_
  refine op rfl (r_moveV (v := .slice _ _ _) rfl) ?_
  refine op rfl (r_len_slice rfl Try.underlying46) ?_
  refine op rfl (r_lss rfl rfl) ?_
  refine WL_nil ?_
  refine W_ifp rfl (fun ht8 => ?_) (fun ht8 => ?_)
  · have hlt : i < l.length := by omega
    obtain ⟨g, off, Ab, cb, hAe, _, hlb, hrb, hcell⟩ := jdo_cells hA hlt
    have hx3 : w'.cell? ⟨g, off + (i : Int).toNat * 3 + 2, none⟩ = some (.slice Ab l[i].b.length cb) := hcell _ hX 2 (by decide)
    have htk := jlong_succ hlt
    have hle1 := hbig (i + 1) hlt
    refine W_skip ?_
    refine W_seq ?_
    refine W_block ?_
    refine W_region ?_
    refine op rfl (r_moveV (v := .int _ _) rfl) ?_
    refine op rfl (r_add' rfl rfl (wrap_i64 (by omega) (by omega))) ?_
    refine op rfl (r_moveV (v := .slice _ _ _) rfl) ?_
    refine op rfl (r_moveV (v := .int _ _) rfl) ?_
    refine op rfl (r_indexAddrN rfl rfl hAe Try.underlying46 Try.sz49 (by omega) (by omega)) ?_
    refine op rfl (r_fieldAddr rfl Try.fld49_2 rfl) ?_
    refine op rfl (r_load (v := .slice Ab l[i].b.length cb) rfl Try.underlying23 rfl hx3) ?_
    refine op rfl (r_len_slice rfl Try.underlying23) ?_
    refine op rfl (r_add' (r := ((jlong (l.take (i + 1)) : Nat) : Int)) rfl rfl (by rw [htk, wrap_i64 (by omega) (by omega)]; omega)) ?_
    refine op rfl (r_assignV (v := .int _ _) rfl) ?_
    refine WL_nil ?_
    refine W_region ?_
    refine op rfl (r_moveV (v := .int _ _) rfl) ?_
    refine op rfl (r_add' rfl rfl (wrap_i64 (by omega) (by omega))) ?_
    refine op rfl (r_assignV (v := .int _ _) rfl) ?_
    refine WL_nil ?_
    refine ⟨?_, by repeat (first | with_reducible exact Out.refl _ _ | with_reducible exact Out.mix | refine Out.put rfl ?_ | refine Out.mixin rfl ?_ | exact Out.refl _ _ | exact Out.mix)⟩
    exact ⟨l.length - (i + 1), by omega, i + 1, rfl, by omega, rfl, rfl, hX⟩
  · obtain rfl : i = l.length := by omega
    rw [List.take_length] at *
    refine W_exit (blk_hit ?_)
    refine W_seq ?_
    refine W_region ?_
    refine op rfl (r_moveV (v := .int _ _) rfl) ?_
    refine op rfl (r_assignV (v := .int _ _) rfl) ?_
    refine WL_nil ?_
    refine W_ret (finX_ret ?_)
    refine fin1 ?_
    exact ⟨_, rfl, rfl, hX⟩
theorem jsmall_spec (A : Option Addr) (c : Nat) (l : List JDo) (w : World) (hA : jdoT.Row w (old w) A l) (hl : l.length ≤ 140737488355328) : Calls Try.prog 21 #[.slice A l.length c] w (fun en w' => ∃ v, en = .returned v ∧ v = .bool (decide (l.length ≤ 30 ∧ jlong l ≤ 1000)) ∧ Ext w w') := by
  refine calls' (n := 11) (rs := #[.tmp 2]) (l := [.slice A l.length c]) Try.func21 rfl rfl rfl rfl rfl ?_
  have hX := Ext.refl w
  refine W_seq ?_
  refine W_region ?_
  refine op rfl (r_assignV (v := .bool _) rfl) ?_
  refine WL_nil ?_
  refine W_seq ?_
  refine W_region ?_
  refine op rfl (r_moveV (v := .slice _ _ _) rfl) ?_
  refine op rfl (r_len_slice rfl Try.underlying46) ?_
  refine op rfl (r_leq rfl rfl) ?_
  refine op_split rfl (r_moveV (v := .bool (decide _)) rfl) (fun hg6 => ?_) (fun hg6 => ?_)
  · refine opG_yes rfl rfl rfl rfl rfl (r_moveV (v := .slice _ _ _) rfl) ?_
    refine opGCv_yes rfl rfl rfl rfl rfl (r_call Try.func14 Try.nm14 rfl) (jlong_spec A c l _ (hA.ext hX) (by omega)) ?_
    rintro v w2 ⟨rfl, hE⟩
    replace hX := hX.trans hE
    refine opG_yes rfl rfl rfl rfl rfl (r_leq rfl rfl) ?_
    refine op rfl (r_pickTV (v := .bool _) rfl rfl) ?_
    refine op rfl (r_assignV (v := .bool _) rfl) ?_
    refine WL_nil ?_
    refine W_ret (finX_ret ?_)
    refine fin1 ?_
    exact ⟨_, rfl, by first | exact bool_ff (by omega) | exact bool_iff (by omega), hX⟩
  · refine opG_no rfl rfl rfl rfl rfl ?_
    refine opG_no rfl rfl rfl rfl rfl ?_
    refine opG_no rfl rfl rfl rfl rfl ?_
    refine op rfl (r_pickFV (v := .bool _) rfl rfl) ?_
    refine op rfl (r_assignV (v := .bool _) rfl) ?_
    refine WL_nil ?_
    refine W_ret (finX_ret ?_)
    refine fin1 ?_
    exact ⟨_, rfl, by first | exact bool_ff (by omega) | exact bool_iff (by omega), hX⟩
theorem jarm_fa {p B : Nat} {F : Nat → Prop} {w : World} {D : Dk} (h : FA p B F w D) (n : Int) :
    Calls Try.prog 22 #[dq p, .int .i64 n] w (fun en w' => ∃ v, en = .returned v ∧ FA p B F w' (D.arm n) ∧ Fo B F w w') := by
  have hle := h.le
  obtain ⟨H, rfl, hR, h3⟩ := h
  refine (arm_spec hR n).mono ?_
  rintro en w' ⟨v, rfl, h2⟩
  exact ⟨v, rfl, h2.fa hR h3 hle⟩
theorem Inv.arm {D : Dk} {r s : Nat} {st : List UInt8} {rs : List (List UInt8)} {synced : Nat} {A O C : Ar} (h : Inv D r s st rs synced A O C) (n : Int) : Inv (D.arm n) r s st rs synced A O C := by
  refine ⟨?_, h.al1, h.ap, h.ol, h.op, h.sel, h.cn, h.cl, h.cp, h.sy⟩
  unfold Dk.arm
  split
  · exact h.al
  · exact ⟨h.al.n, h.al.room, h.al.ar, h.al.dead⟩
noncomputable instance okLD (D : Dk) (st : List UInt8) (rs : List (List UInt8)) (synced : Nat) : Decidable (okL D st rs synced) := Classical.propDecidable _
theorem ret_no {D : Dk} {st : List UInt8} {rs : List (List UInt8)} {synced : Nat} (h : ¬ okL D st rs synced) : Value.bool false = Value.bool (decide (okL D st rs synced)) := by
  rw [decide_eq_false h]
theorem ret_ok {D : Dk} {st : List UInt8} {rs : List (List UInt8)} {synced : Nat} {p : Prop} {dp : Decidable p} (h : okL D st rs synced) (hp : p) : Value.bool (decide p) = Value.bool (decide (okL D st rs synced)) := by
  rw [decide_eq_true h, decide_eq_true hp]
theorem lasts_spec {p B : Nat} {F : Nat → Prop} {w : World} {D : Dk} (h : FA p B F w D) {k : Nat} (hw : WF D k) (hk : k ≤ 10000) (hn : D.n = 3) (hr : D.room = 100000) (keep : Int)
    (As : Option Addr) (cs : Nat) (st : List UInt8) (hS : Ty.byte.Row w (fun b => b < B ∨ F b) As st)
    (Ar' : Option Addr) (cr : Nat) (rs : List (List UInt8)) (hcr : rs.length ≤ cr) (hrl : rs.length ≤ 1000) (hR : Ty.byte.slice.Row w (fun b => b < B ∨ F b) Ar' rs) (synced : Nat) :
    Calls Try.prog 23 #[dq p, .int .i64 keep, .slice As st.length cs, .slice Ar' rs.length cr, .int .i64 synced] w (fun en w' => ∃ v, en = .returned v ∧ v = .bool (decide (okL (D.restart keep) st rs synced)) ∧ Below B w w') := by
  have hB := h.le
  have hlt := h.lt
  have fE := hw.restart keep
  have hL : Live (D.restart keep) := ⟨rfl, rfl⟩
  have hnE : (D.restart keep).n = 3 := hn
  have jE := JP.restart hn hr (fun i _ => rfl) keep
  have htot : tot (fun i => (D.ar i).back keep) ≤ 3 * k := by
    have a := (fE.len 0 (by omega)).1
    have b := (fE.len 1 (by omega)).1
    have c := (fE.len 2 (by omega)).1
    rw [jE.ar 0 (by omega)] at a
    rw [jE.ar 1 (by omega)] at b
    rw [jE.ar 2 (by omega)] at c
    show ((D.ar 0).back keep).now.length + ((D.ar 1).back keep).now.length + ((D.ar 2).back keep).now.length ≤ 3 * k
    omega
  obtain ⟨lF, nF, eF, eG, lK, nK, sK, rK⟩ := goes_on jE (fun i hi => rfl) (by omega)
  have hq := chos_lt ((D.restart keep).read 0) ((D.restart keep).read 1)
  replace hq : (D.restart keep).seqOf < 2 ^ 64 := hq
  have RC := restart_fa h hw (by omega) keep
  clear jE htot
  generalize D.restart keep = E at *
  have hrcl := (recs_le (E.read 2) E.seqOf).2
  replace hrcl : E.recsOf.1.length ≤ (E.read 2).length := hrcl
  have hrdl : (E.read 2).length ≤ 10000 := by
    unfold Dk.read
    split
    · rename_i q; have := (fE.len _ (there_nat q).2).1; omega
    · simp
  generalize hst : E.stateOf = st0 at *
  generalize hrl0 : E.recsOf.1 = rl at *
  have hml : moreB.length = 4 := rfl
  have hr1 := rec1_len E.seqOf moreB
  have f1 := fE.opened
  have f2 := f1.append 2 (rec1 E.seqOf moreB)
  have f3 := f2.sync 2
  have f4 := f3.restart 0
  generalize hG : (E.opened.append 2 (rec1 E.seqOf moreB)).1 = G at *
  generalize hK : (G.sync 2).1 = K at *
  refine calls' (n := 108) (rs := #[.tmp 10]) (l := [dq p, .int .i64 keep, .slice As st.length cs, .slice Ar' rs.length cr, .int .i64 synced]) Try.func23 rfl rfl rfl rfl rfl ?_
  refine W_seq ?_
  refine W_region ?_
  refine op rfl (r_assignV (v := .bool _) rfl) ?_
  refine WL_nil ?_
  refine W_seq ?_
  refine W_region ?_
  refine op rfl (r_moveV (v := .pointer _) rfl) ?_
  refine op rfl (r_moveV (v := .int _ _) rfl) ?_
  refine opCv rfl (r_call Try.func17 Try.nm17 rfl) (RC) ?_
  rintro v w1 ⟨hF1, hFo1⟩
  refine WL_nil ?_
  refine W_seq ?_
  refine W_region ?_
  refine op rfl (r_moveV (v := .pointer _) rfl) ?_
  refine opCv rfl (r_call Try.func9 Try.nm9 rfl) (open_spec hF1 fE (by omega) hL hnE) ?_
  rintro v w2 ⟨F2, jb, A1, c1, A2, c2, rfl, hF2, hJ2, hc1, hr2, hc2, hrr2, hFo2⟩
  simp only [hst, hrl0] at hc1 hr2 hc2 hrr2 ⊢
  have hFoA : Fo B F w w2 := hFo1.trans hFo2
  have hS2 : Ty.byte.Row w2 (old w2) As st := hS.keep (fun b hb => hb.elim (fun q => hFoA.below.block b q) (fun q => hFoA.same b q)) (fun b hb => Nat.lt_of_lt_of_le (hb.elim (fun q => Nat.lt_of_lt_of_le q hB) (fun q => hlt b q)) hFoA.below.size)
  have hR2 : Ty.byte.slice.Row w2 (fun b => b < B ∨ F2 b) Ar' rs := hR.keep (fun b hb => hb.elim (fun q => hFoA.below.block b q) (fun q => hFoA.same b q)) (fun b hb => hb.imp id (hF2 b))
  have hS2' : Ty.byte.Row w2 (fun b => b < B ∨ F2 b) As st := hS.keep (fun b hb => hb.elim (fun q => hFoA.below.block b q) (fun q => hFoA.same b q)) (fun b hb => hb.imp id (hF2 b))
  have hB2 := hJ2.fa.le
  have o2 : ∀ b, (b < B ∨ F2 b) → b < w2.heap.size := fun b hb => hb.elim (fun q => Nat.lt_of_lt_of_le q hB2) (fun q => hJ2.fa.lt b q)
  refine op rfl (r_moveV (v := .tuple #[jq jb, .slice A1 st0.length c1, .slice A2 rl.length c2, .int .i64 0]) rfl) ?_
  refine op rfl (r_extract (vs := [jq jb, .slice A1 st0.length c1, .slice A2 rl.length c2, .int .i64 0]) rfl rfl) ?_
  refine op rfl (r_extract (vs := [jq jb, .slice A1 st0.length c1, .slice A2 rl.length c2, .int .i64 0]) rfl rfl) ?_
  refine op rfl (r_extract (vs := [jq jb, .slice A1 st0.length c1, .slice A2 rl.length c2, .int .i64 0]) rfl rfl) ?_
  refine op rfl (r_extract (vs := [jq jb, .slice A1 st0.length c1, .slice A2 rl.length c2, .int .i64 0]) rfl rfl) ?_
  refine op rfl (r_assignV (v := jq jb) rfl) ?_
  refine op rfl (r_assignV (v := .slice A1 st0.length c1) rfl) ?_
  refine op rfl (r_assignV (v := .slice A2 rl.length c2) rfl) ?_
  refine op rfl (r_assignV (v := .int .i64 0) rfl) ?_
  refine WL_nil ?_
  refine W_seq ?_
  refine W_seq ?_
  refine W_region ?_
  refine op rfl (r_moveV (v := .int .i64 0) rfl) ?_
  refine op rfl (r_neq rfl rfl) ?_
  refine op_false rfl (r_moveV (v := .bool (decide _)) rfl) (fun h => h rfl) ?_
  refine opG_yes rfl rfl rfl rfl rfl (r_moveV (v := .slice A1 st0.length c1) rfl) ?_
  refine opG_yes rfl rfl rfl rfl rfl (r_moveV (v := .slice _ _ _) rfl) ?_
  refine opGCv_yes rfl rfl rfl rfl rfl (r_call Try.func18 Try.nm18 rfl) (same_spec A1 c1 st0 As cs st _ hr2 hS2) ?_
  rintro v w3 ⟨rfl, hE3⟩
  refine opG_yes rfl rfl rfl rfl rfl (r_notP rfl) ?_
  refine op rfl (r_pickFV (v := .bool _) rfl rfl) ?_
  refine op_split rfl (r_moveV (v := .bool (decide _)) rfl) (fun hg39 => ?_) (fun hg39 => ?_)
  · refine opG_no rfl rfl rfl rfl rfl ?_
    refine opG_no rfl rfl rfl rfl rfl ?_
    refine opG_no rfl rfl rfl rfl rfl ?_
    refine opG_no rfl rfl rfl rfl rfl ?_
    refine op rfl (r_pickTV (v := .bool _) rfl rfl) ?_
    refine op rfl (r_moveV (v := .bool _) rfl) ?_
    refine opG_no rfl rfl rfl rfl rfl ?_
    refine opG_no rfl rfl rfl rfl rfl ?_
    refine opG_no rfl rfl rfl rfl rfl ?_
    refine opG_no rfl rfl rfl rfl rfl ?_
    refine opG_no rfl rfl rfl rfl rfl ?_
    refine op rfl (r_pickTV (v := .bool _) rfl rfl) ?_
    refine op rfl (r_moveV (v := .bool _) rfl) ?_
    refine opG_no rfl rfl rfl rfl rfl ?_
    refine opG_no rfl rfl rfl rfl rfl ?_
    refine opG_no rfl rfl rfl rfl rfl ?_
    refine opG_no rfl rfl rfl rfl rfl ?_
    refine opG_no rfl rfl rfl rfl rfl ?_
    refine opG_no rfl rfl rfl rfl rfl ?_
    refine opG_no rfl rfl rfl rfl rfl ?_
    refine op rfl (r_pickTV (v := .bool _) rfl rfl) ?_
    refine WL_nil ?_
    refine W_then rfl ?_
    refine W_seq ?_
    refine W_region ?_
    refine op rfl (r_assignV (v := .bool _) rfl) ?_
    refine WL_nil ?_
    refine W_ret (finX_ret ?_)
    refine fin1 ?_
    first
      | exact ⟨_, rfl, ret_ok hok rfl, Below.trans hFin (hE11.mono hJ10.fa.le)⟩
      | exact ⟨_, rfl, ret_no (fun q => hg39 (hst.symm.trans q.1)), Below.trans hFoA.below (hE3.mono hB2)⟩
      | exact ⟨_, rfl, ret_no (fun q => by have := q.2.1; rw [hrl0] at this; omega), Below.trans hFoA.below (hE3.mono hB2)⟩
      | exact ⟨_, rfl, ret_no (fun q => by have := q.2.2.1; rw [hrl0] at this; omega), Below.trans hFoA.below (hE3.mono hB2)⟩
      | exact ⟨_, rfl, ret_no (fun q => ht60 (by have := q.2.2.2; rw [hrl0] at this; exact this)), Below.trans hFoA.below ((hE3.trans hE4).mono hB2)⟩
  · refine opG_yes rfl rfl rfl rfl rfl (r_moveV (v := .slice A2 rl.length c2) rfl) ?_
    refine opG_yes rfl rfl rfl rfl rfl (r_len_slice rfl Try.underlying22) ?_
    refine opG_yes rfl rfl rfl rfl rfl (r_moveV (v := .int _ _) rfl) ?_
    refine opG_yes rfl rfl rfl rfl rfl (r_lss rfl rfl) ?_
    refine op rfl (r_pickFV (v := .bool _) rfl rfl) ?_
    refine op_split rfl (r_moveV (v := .bool (decide _)) rfl) (fun hg45 => ?_) (fun hg45 => ?_)
    · refine opG_no rfl rfl rfl rfl rfl ?_
      refine opG_no rfl rfl rfl rfl rfl ?_
      refine opG_no rfl rfl rfl rfl rfl ?_
      refine opG_no rfl rfl rfl rfl rfl ?_
      refine opG_no rfl rfl rfl rfl rfl ?_
      refine op rfl (r_pickTV (v := .bool _) rfl rfl) ?_
      refine op rfl (r_moveV (v := .bool _) rfl) ?_
      refine opG_no rfl rfl rfl rfl rfl ?_
      refine opG_no rfl rfl rfl rfl rfl ?_
      refine opG_no rfl rfl rfl rfl rfl ?_
      refine opG_no rfl rfl rfl rfl rfl ?_
      refine opG_no rfl rfl rfl rfl rfl ?_
      refine opG_no rfl rfl rfl rfl rfl ?_
      refine opG_no rfl rfl rfl rfl rfl ?_
      refine op rfl (r_pickTV (v := .bool _) rfl rfl) ?_
      refine WL_nil ?_
      refine W_then rfl ?_
      refine W_seq ?_
      refine W_region ?_
      refine op rfl (r_assignV (v := .bool _) rfl) ?_
      refine WL_nil ?_
      refine W_ret (finX_ret ?_)
      refine fin1 ?_
      first
        | exact ⟨_, rfl, ret_ok hok rfl, Below.trans hFin (hE11.mono hJ10.fa.le)⟩
        | exact ⟨_, rfl, ret_no (fun q => hg39 (hst.symm.trans q.1)), Below.trans hFoA.below (hE3.mono hB2)⟩
        | exact ⟨_, rfl, ret_no (fun q => by have := q.2.1; rw [hrl0] at this; omega), Below.trans hFoA.below (hE3.mono hB2)⟩
        | exact ⟨_, rfl, ret_no (fun q => by have := q.2.2.1; rw [hrl0] at this; omega), Below.trans hFoA.below (hE3.mono hB2)⟩
        | exact ⟨_, rfl, ret_no (fun q => ht60 (by have := q.2.2.2; rw [hrl0] at this; exact this)), Below.trans hFoA.below ((hE3.trans hE4).mono hB2)⟩
    · refine opG_yes rfl rfl rfl rfl rfl (r_moveV (v := .slice A2 rl.length c2) rfl) ?_
      refine opG_yes rfl rfl rfl rfl rfl (r_len_slice rfl Try.underlying22) ?_
      refine opG_yes rfl rfl rfl rfl rfl (r_moveV (v := .slice _ _ _) rfl) ?_
      refine opG_yes rfl rfl rfl rfl rfl (r_len_slice rfl Try.underlying22) ?_
      refine opG_yes rfl rfl rfl rfl rfl (r_gtr rfl rfl) ?_
      refine op rfl (r_pickFV (v := .bool _) rfl rfl) ?_
      refine op_split rfl (r_moveV (v := .bool (decide _)) rfl) (fun hg52 => ?_) (fun hg52 => ?_)
      · refine opG_no rfl rfl rfl rfl rfl ?_
        refine opG_no rfl rfl rfl rfl rfl ?_
        refine opG_no rfl rfl rfl rfl rfl ?_
        refine opG_no rfl rfl rfl rfl rfl ?_
        refine opG_no rfl rfl rfl rfl rfl ?_
        refine opG_no rfl rfl rfl rfl rfl ?_
        refine opG_no rfl rfl rfl rfl rfl ?_
        refine op rfl (r_pickTV (v := .bool _) rfl rfl) ?_
        refine WL_nil ?_
        refine W_then rfl ?_
        refine W_seq ?_
        refine W_region ?_
        refine op rfl (r_assignV (v := .bool _) rfl) ?_
        refine WL_nil ?_
        refine W_ret (finX_ret ?_)
        refine fin1 ?_
        first
          | exact ⟨_, rfl, ret_ok hok rfl, Below.trans hFin (hE11.mono hJ10.fa.le)⟩
          | exact ⟨_, rfl, ret_no (fun q => hg39 (hst.symm.trans q.1)), Below.trans hFoA.below (hE3.mono hB2)⟩
          | exact ⟨_, rfl, ret_no (fun q => by have := q.2.1; rw [hrl0] at this; omega), Below.trans hFoA.below (hE3.mono hB2)⟩
          | exact ⟨_, rfl, ret_no (fun q => by have := q.2.2.1; rw [hrl0] at this; omega), Below.trans hFoA.below (hE3.mono hB2)⟩
          | exact ⟨_, rfl, ret_no (fun q => ht60 (by have := q.2.2.2; rw [hrl0] at this; exact this)), Below.trans hFoA.below ((hE3.trans hE4).mono hB2)⟩
      · refine opG_yes rfl rfl rfl rfl rfl (r_moveV (v := .slice A2 rl.length c2) rfl) ?_
        refine opG_yes rfl rfl rfl rfl rfl (r_moveV (v := .slice _ _ _) rfl) ?_
        refine opG_yes rfl rfl rfl rfl rfl (r_moveV (v := .slice A2 rl.length c2) rfl) ?_
        refine opG_yes rfl rfl rfl rfl rfl (r_len_slice rfl Try.underlying22) ?_
        refine opG_yes rfl rfl rfl rfl rfl (r_sliceHi (j := rl.length) rfl rfl Try.underlying22 Try.sz23 (by omega)) ?_
        have hle : rl.length ≤ rs.length := by omega
        have SL := sameLists_spec A2 c2 rl Ar' cr (rs.take rl.length) w3 (bigs _ (by omega)) ((row_old hrr2 hJ2.fa.lt).ext hE3) (((row_old hR2 o2).ext hE3).take rl.length)
        rw [List.length_take, Nat.min_eq_left hle] at SL
        refine opGCv_yes rfl rfl rfl rfl rfl (r_call Try.func13 Try.nm13 rfl) (SL) ?_
        rintro v w4 ⟨rfl, hE4⟩
        refine opG_yes rfl rfl rfl rfl rfl (r_notP rfl) ?_
        refine op rfl (r_pickFV (v := .bool _) rfl rfl) ?_
        refine WL_nil ?_
        refine W_ifp rfl (fun ht60 => ?_) (fun ht60 => ?_)
        · refine W_seq ?_
          refine W_region ?_
          refine op rfl (r_assignV (v := .bool _) rfl) ?_
          refine WL_nil ?_
          refine W_ret (finX_ret ?_)
          refine fin1 ?_
          first
            | exact ⟨_, rfl, ret_ok hok rfl, Below.trans hFin (hE11.mono hJ10.fa.le)⟩
            | exact ⟨_, rfl, ret_no (fun q => hg39 (hst.symm.trans q.1)), Below.trans hFoA.below (hE3.mono hB2)⟩
            | exact ⟨_, rfl, ret_no (fun q => by have := q.2.1; rw [hrl0] at this; omega), Below.trans hFoA.below (hE3.mono hB2)⟩
            | exact ⟨_, rfl, ret_no (fun q => by have := q.2.2.1; rw [hrl0] at this; omega), Below.trans hFoA.below (hE3.mono hB2)⟩
            | exact ⟨_, rfl, ret_no (fun q => ht60 (by have := q.2.2.2; rw [hrl0] at this; exact this)), Below.trans hFoA.below ((hE3.trans hE4).mono hB2)⟩
        · have hok : okL E st rs synced := ⟨hst.trans (by simpa using hg39), by rw [hrl0]; omega, by rw [hrl0]; omega, by rw [hrl0]; simpa using ht60⟩
          have hE24 := hE3.trans hE4
          have hJ4 := hJ2.ext hE24
          have hFo4 : Below B w w4 := Below.trans hFoA.below (hE24.mono hB2)
          refine W_skip ?_
          refine W_seq ?_
          refine W_region ?_
          refine op rfl (r_moveV (v := jq jb) rfl) ?_
          refine op_newS rfl (r_buildSlice (vs := [.int .u8 109, .int .u8 111, .int .u8 114, .int .u8 101]) Try.underlying23 Try.sz5 Try.zero5 rfl rfl rfl) ?_
          intro w5_1 b5_1 E5_1 B5_1 L5_1
          have hJ5 := hJ4.nw E5_1
          have hmb : Nw F2 w4 w5_1 b5_1 := Or.inr ⟨Nat.le_of_eq L5_1, Blk.lt B5_1⟩
          have hne : b5_1 ≠ jb := by have := Blk.lt hJ4.bj; omega
          refine op_convB rfl rfl Try.underlying23 Try.underlying5 B5_1 ?_
          intro w5_2 C5_2 B5_2
          have hJ6 := hJ5.chg hmb hne C5_2
          have hFo6 : Below B w w5_2 := (Below.trans hFo4 (E5_1.mono hJ4.fa.le)).trans (Chg.below (Below.refl _ _) (by have := hJ4.fa.le; omega) (by have := hJ5.fa.le; omega) C5_2)
          have hG6 : Fo B F2 w4 w5_2 := ⟨fun b hb => (C5_2.block b (Nat.lt_of_lt_of_le (hJ4.fa.lt b hb) E5_1.size) (by have := hJ4.fa.lt b hb; omega)).trans (E5_1.block b (hJ4.fa.lt b hb)), (E5_1.mono hJ4.fa.le).trans (Chg.below (Below.refl _ _) (by have := hJ4.fa.le; omega) (by have := hJ5.fa.le; omega) C5_2)⟩
          refine opCv rfl (r_call Try.func10 Try.nm10 rfl) (jappend_spec hJ6 hq f1 (by omega) (some ⟨b5_1, 0, none⟩) 4 moreB (by decide) (by decide) (bytes_of B5_2 rfl)) ?_
          rintro v w7 ⟨rfl, hJ7, hFo7⟩
          rw [eF]
          rw [hG] at hJ7
          refine op rfl (r_assignV (v := .int _ _) rfl) ?_
          refine WL_nil ?_
          refine W_seq ?_
          refine W_region ?_
          refine op rfl (r_moveV (v := jq jb) rfl) ?_
          refine opCv rfl (r_call Try.func15 Try.nm15 rfl) (jsync_spec hJ7 f2 (by rw [hr1]; omega)) ?_
          rintro v w8 ⟨rfl, hJ8, hFo8⟩
          rw [eG]
          rw [hK] at hJ8
          refine op rfl (r_assignV (v := .int _ _) rfl) ?_
          refine WL_nil ?_
          refine W_seq ?_
          refine W_region ?_
          refine op rfl (r_moveV (v := .pointer _) rfl) ?_
          refine opCv rfl (r_call Try.func17 Try.nm17 rfl) (restart_fa hJ8.fa f3 (by rw [hr1]; omega) 0) ?_
          rintro v w9 ⟨hF9, hFo9⟩
          generalize K.restart 0 = K4 at *
          refine WL_nil ?_
          refine W_seq ?_
          refine W_region ?_
          refine op rfl (r_moveV (v := .pointer _) rfl) ?_
          refine opCv rfl (r_call Try.func9 Try.nm9 rfl) (open_spec hF9 f4 (by rw [hr1]; omega) lK nK) ?_
          rintro v w10 ⟨F10, jb10, A6, c6, A7, c7, rfl, hF10, hJ10, hc6, hr6, hc7, hr7, hFo10⟩
          simp only [sK, rK] at hc6 hr6 hc7 hr7 ⊢
          have hFoB : Fo B (Nw F2 w4 w5_1) w5_2 w10 := ((hFo7.trans hFo8).trans hFo9).trans hFo10
          have hFoC : Fo B F2 w4 w10 := hG6.trans (hFoB.weak (fun b hb => Or.inl hb))
          have hFin : Below B w w10 := Below.trans hFo4 hFoC.below
          have hS10 : Ty.byte.Row w10 (old w10) As st := hS2'.keep (fun b hb => (hb.elim (fun q => hFoC.below.block b q) (fun q => hFoC.same b q)).trans (hE24.block b (o2 b hb))) (fun b hb => Nat.lt_of_lt_of_le (o2 b hb) (Nat.le_trans hE24.size hFoC.below.size))
          obtain ⟨g8, o8, A9, c9, hA8, hg8, hcl9, _, _, hr9⟩ := Ty.Row.cellS (row_old hr7 hJ10.fa.lt) (i := rl.length) (by simp)
          have hmore : (rl ++ [moreB])[rl.length]'(by simp) = moreB := by simp
          rw [hmore] at hcl9 hr9
          refine op rfl (r_moveV (v := .tuple #[jq jb10, .slice A6 st0.length c6, .slice A7 (rl ++ [moreB]).length c7, .int .i64 0]) rfl) ?_
          refine op rfl (r_extract (vs := [jq jb10, .slice A6 st0.length c6, .slice A7 (rl ++ [moreB]).length c7, .int .i64 0]) rfl rfl) ?_
          refine op rfl (r_extract (vs := [jq jb10, .slice A6 st0.length c6, .slice A7 (rl ++ [moreB]).length c7, .int .i64 0]) rfl rfl) ?_
          refine op rfl (r_extract (vs := [jq jb10, .slice A6 st0.length c6, .slice A7 (rl ++ [moreB]).length c7, .int .i64 0]) rfl rfl) ?_
          refine op rfl (r_extract (vs := [jq jb10, .slice A6 st0.length c6, .slice A7 (rl ++ [moreB]).length c7, .int .i64 0]) rfl rfl) ?_
          refine op rfl (r_assignV (v := jq jb10) rfl) ?_
          refine op rfl (r_assignV (v := .slice A6 st0.length c6) rfl) ?_
          refine op rfl (r_assignV (v := .slice A7 (rl ++ [moreB]).length c7) rfl) ?_
          refine op rfl (r_assignV (v := .int .i64 0) rfl) ?_
          refine WL_nil ?_
          refine W_seq ?_
          refine W_region ?_
          refine op rfl (r_moveV (v := .int _ _) rfl) ?_
          refine op rfl (r_eql rfl rfl) ?_
          refine op_true rfl (r_moveV (v := .bool (decide _)) rfl) (rfl) ?_
          refine opG_yes rfl rfl rfl rfl rfl (r_moveV (v := .int _ _) rfl) ?_
          refine opG_yes rfl rfl rfl rfl rfl (r_eql rfl rfl) ?_
          refine op rfl (r_pickTV (v := .bool _) rfl rfl) ?_
          refine op_true rfl (r_moveV (v := .bool (decide _)) rfl) (rfl) ?_
          refine opG_yes rfl rfl rfl rfl rfl (r_moveV (v := .int .i64 0) rfl) ?_
          refine opG_yes rfl rfl rfl rfl rfl (r_eql rfl rfl) ?_
          refine op rfl (r_pickTV (v := .bool _) rfl rfl) ?_
          refine op_true rfl (r_moveV (v := .bool (decide _)) rfl) (rfl) ?_
          refine opG_yes rfl rfl rfl rfl rfl (r_moveV (v := .slice A6 st0.length c6) rfl) ?_
          refine opG_yes rfl rfl rfl rfl rfl (r_moveV (v := .slice _ _ _) rfl) ?_
          refine opGCv_yes rfl rfl rfl rfl rfl (r_call Try.func18 Try.nm18 rfl) (same_spec A6 c6 st0 As cs st _ hr6 hS10) ?_
          rintro v w11 ⟨rfl, hE11⟩
          refine op rfl (r_pickTV (v := .bool _) rfl rfl) ?_
          refine op_true rfl (r_moveV (v := .bool (decide _)) rfl) (hst.symm.trans hok.1) ?_
          refine opG_yes rfl rfl rfl rfl rfl (r_moveV (v := .slice A7 (rl ++ [moreB]).length c7) rfl) ?_
          refine opG_yes rfl rfl rfl rfl rfl (r_len_slice rfl Try.underlying22) ?_
          refine opG_yes rfl rfl rfl rfl rfl (r_moveV (v := .slice A2 rl.length c2) rfl) ?_
          refine opG_yes rfl rfl rfl rfl rfl (r_len_slice rfl Try.underlying22) ?_
          refine opG_yes rfl rfl rfl rfl rfl (r_add' (k := .i64) (m := ((rl.length : Nat) : Int)) (n := 1) (r := (((rl ++ [moreB]).length : Nat) : Int)) rfl rfl (by rw [wrap_i64 (by omega) (by omega)]; simp)) ?_
          refine opG_yes rfl rfl rfl rfl rfl (r_eql rfl rfl) ?_
          refine op rfl (r_pickTV (v := .bool _) rfl rfl) ?_
          refine op_true rfl (r_moveV (v := .bool (decide _)) rfl) (rfl) ?_
          refine opG_yes rfl rfl rfl rfl rfl (r_moveV (v := .slice A7 (rl ++ [moreB]).length c7) rfl) ?_
          refine opG_yes rfl rfl rfl rfl rfl (r_moveV (v := .slice A2 rl.length c2) rfl) ?_
          refine opG_yes rfl rfl rfl rfl rfl (r_len_slice rfl Try.underlying22) ?_
          refine opG_yes rfl rfl rfl rfl rfl (r_indexAddr1 (i := ((rl.length : Nat) : Int)) rfl rfl hA8 Try.underlying22 Try.sz23 (by omega) (by simp; omega)) ?_
          refine opG_yes rfl rfl rfl rfl rfl (r_load (v := .slice A9 moreB.length c9) rfl Try.underlying23 rfl (ext_cell hE11 hcl9)) ?_
          refine opG_yes rfl rfl rfl rfl rfl (r_str rfl Try.underlying23 Try.underlying5 Try.underlying9 (hr9.ext hE11)) ?_
          refine opG_yes rfl rfl rfl rfl rfl (rs_eql rfl rfl) ?_
          refine op rfl (r_pickTV (v := .bool _) rfl rfl) ?_
          refine op rfl (r_assignV (v := .bool _) rfl) ?_
          refine WL_nil ?_
          refine W_ret (finX_ret ?_)
          refine fin1 ?_
          first
            | exact ⟨_, rfl, ret_ok hok rfl, Below.trans hFin (hE11.mono hJ10.fa.le)⟩
            | exact ⟨_, rfl, ret_no (fun q => hg39 (hst.symm.trans q.1)), Below.trans hFoA.below (hE3.mono hB2)⟩
            | exact ⟨_, rfl, ret_no (fun q => by have := q.2.1; rw [hrl0] at this; omega), Below.trans hFoA.below (hE3.mono hB2)⟩
            | exact ⟨_, rfl, ret_no (fun q => by have := q.2.2.1; rw [hrl0] at this; omega), Below.trans hFoA.below (hE3.mono hB2)⟩
            | exact ⟨_, rfl, ret_no (fun q => ht60 (by have := q.2.2.2; rw [hrl0] at this; exact this)), Below.trans hFoA.below ((hE3.trans hE4).mono hB2)⟩
theorem jcopy_da {p B : Nat} {w : World} {D : Dk} (h : DA p B w D) {k : Nat} (hw : WF D k) (hk : k ≤ 1073741824) (hn0 : 0 < D.n) : Calls Try.prog 24 #[dq p] w (fun en w' => ∃ v, en = .returned v ∧ ∃ p2, v = dq p2 ∧ Ext w w' ∧ DA p2 w.heap.size w' D) := by
  obtain ⟨H, rfl, hR⟩ := h
  exact copy_spec hR hw hk hn0
theorem grow_room : ∀ (l : List UInt8) (D : Dk) (a : Nat), (D.grow a l).room = D.room
  | [], D, a => rfl
  | c :: l, D, a => by
    unfold Dk.grow
    split
    · rw [grow_room l]; exact unit_room D
    · exact unit_room D
theorem cut_nr (D : Dk) (a n : Int) : (D.cut a n).1.n = D.n ∧ (D.cut a n).1.room = D.room := by
  unfold Dk.cut
  split
  · exact ⟨rfl, rfl⟩
  · split
    · exact ⟨rfl, rfl⟩
    · split
      · exact ⟨unit_n D, unit_room D⟩
      · exact ⟨unit_n D, unit_room D⟩
theorem sync_nr (D : Dk) (a : Int) : (D.sync a).1.n = D.n ∧ (D.sync a).1.room = D.room := by
  unfold Dk.sync
  split
  · exact ⟨rfl, rfl⟩
  · split
    · exact ⟨unit_n D, unit_room D⟩
    · exact ⟨unit_n D, unit_room D⟩
theorem append_nr (D : Dk) (a : Int) (b : List UInt8) : (D.append a b).1.n = D.n ∧ (D.append a b).1.room = D.room := by
  unfold Dk.append
  split
  · exact ⟨rfl, rfl⟩
  · split
    · exact ⟨rfl, rfl⟩
    · exact ⟨grow_n _ _ _, grow_room _ _ _⟩
theorem stg_nr (D : Dk) (s : Nat) (x : List UInt8) : ∀ i, (D.stg s x i).1.n = D.n ∧ (D.stg s x i).1.room = D.room
  | 0 => ⟨rfl, rfl⟩
  | i + 1 => by
    obtain ⟨h1, h2⟩ := stg_nr D s x i
    have : ∀ E : Dk, (Dk.stp s x i E).1.n = E.n ∧ (Dk.stp s x i E).1.room = E.room := fun E => by
      unfold Dk.stp
      split
      · exact cut_nr _ _ _
      · exact append_nr _ _ _
      · exact sync_nr _ _
      · exact cut_nr _ _ _
      · exact sync_nr _ _
    obtain ⟨h3, h4⟩ := this (D.stg s x i).1
    exact ⟨h3.trans h1, h4.trans h2⟩
theorem Inv.small {D : Dk} {r s k : Nat} {st : List UInt8} {rs : List (List UInt8)} {synced : Nat} {A O C : Ar} (h : Inv D r s st rs synced A O C) (hw : WF D k) : A.now.length ≤ k ∧ O.now.length ≤ k ∧ C.now.length ≤ k := by
  have hn := h.al.n
  have h1 := (hw.len (s % 2) (by omega)).1
  have h2 := (hw.len (sl s) (by have := sl_lt s; omega)).1
  have h3 := (hw.len 2 (by omega)).1
  rw [h.al.ar _ (by omega), pos_act] at h1
  rw [h.al.ar _ (sl_lt s), pos_sl] at h2
  rw [h.al.ar 2 (by omega), pos_2] at h3
  exact ⟨h1, h2, h3⟩
/-- What holds ahead of what is done next. -/
structure JL (W w0 w' : World) (jb p : Nat) (F : Nat → Prop) (i : Nat) (D : Dk) (s : Nat) (st : List UInt8) (rs : List (List UInt8)) (synced : Nat) (A O C : Ar) (Am : Option Addr) (cm : Nat) (Ast : Option Addr) (kk : Nat) : Prop where
  inv : Inv D 100000 s st rs synced A O C
  wf : WF D kk
  ja : JA jb p w0.heap.size F w' D s
  si : s ≤ i
  rl : ∀ y ∈ rs, y.length ≤ 1000
  rn : rs.length ≤ i
  st : Ty.byte.Row w' (old W) Ast st
  own : Eng.Own Ty.byte.slice w' (old W) w0.heap.size 23 (.slice Am rs.length cm) rs
  ub : ∀ b, (Value.slice Am rs.length cm).ownBlock = some b → F b ∧ b ≠ jb
  ext : Ext W w'
theorem JL.rows {W w0 w' : World} {F : Nat → Prop} {st : List UInt8} {rs : List (List UInt8)} {Am : Option Addr} {cm : Nat} {Ast : Option Addr} (h8 : Ext W w0) (hst : Ty.byte.Row w' (old W) Ast st) (hO : Eng.Own Ty.byte.slice w' (old W) w0.heap.size 23 (.slice Am rs.length cm) rs) (hu : ∀ b, (Value.slice Am rs.length cm).ownBlock = some b → F b) :
    Ty.byte.Row w' (fun b => b < w0.heap.size ∨ F b) Ast st ∧ Ty.byte.slice.Row w' (fun b => b < w0.heap.size ∨ F b) Am rs ∧ rs.length ≤ cm := by
  obtain ⟨A', c', hv, hc, hr⟩ := hO.read
  cases hv
  exact ⟨hst.keep (fun _ _ => rfl) (fun b hb => Or.inl (Nat.lt_of_lt_of_le hb h8.size)), hr.keep (fun _ _ => rfl) (fun b hb => hb.imp (fun q => Nat.lt_of_lt_of_le q h8.size) (hu b)), hc⟩
theorem journalLasts_walk (W : World) (Ao : Option Addr) (co : Nat) (l : List JDo) (hco : l.length ≤ co) (hl : l.length ≤ big) (hA : jdoT.Row W (old W) Ao l) (power : Int) (hpower : inK .u16 power) (keep : Int) (_ : inK .i64 keep) :
    Calls Try.prog 6 #[.slice Ao l.length co, .int .u16 power, .int .i64 keep] W (fun e W' => ∃ v, e = .returned v ∧ v = .bool true ∧ Ext W W') := by
  have hl' : l.length ≤ 140737488355328 := hl
  simp only [inK, lo, hi] at hpower
  clear hl
  refine calls' (n := 159) (rs := #[.tmp 6]) (l := [.slice Ao l.length co, .int .u16 power, .int .i64 keep]) Try.func6 rfl rfl rfl rfl rfl ?_
  have hX := Ext.refl W
  refine W_seq ?_
  refine W_region ?_
  refine op rfl (r_assignV (v := .bool _) rfl) ?_
  refine WL_nil ?_
  refine W_seq ?_
  refine W_seq ?_
  refine W_region ?_
  refine op rfl (r_moveV (v := .slice _ _ _) rfl) ?_
  refine opCv rfl (r_call Try.func21 Try.nm21 rfl) (jsmall_spec Ao co l _ hA hl') ?_
  rintro v w1 ⟨rfl, hE⟩
  replace hX := hX.trans hE
  refine op rfl (r_notP rfl) ?_
  refine WL_nil ?_
  refine W_ifp rfl (fun ht22 => ?_) (fun ht22 => ?_)
  · refine W_seq ?_
    refine W_region ?_
    refine opCv rfl (r_call Try.func7 Try.nm7 rfl) (known_spec _) ?_
    rintro v w2 ⟨rfl, hE⟩
    replace hX := hX.trans hE
    refine op rfl (r_assignV (v := .bool _) rfl) ?_
    refine WL_nil ?_
    refine W_ret (finX_ret ?_)
    refine fin1 ?_
    exact ⟨_, rfl, rfl, hX⟩
  · obtain ⟨hn30, hlong⟩ := Classical.byContradiction ht22
    have i0 := Inv.new 100000 (by omega)
    have l0 := live_new 3 100000
    rw [show ((100000 : Nat) : Int) = 100000 from rfl] at i0
    have f0 := WF.new 3 100000
    obtain ⟨q0, _, _, o0⟩ := i0.open l0 (by decide) (by simp)
    obtain ⟨w0, hw0⟩ : ∃ w0, w0 = w1 := ⟨_, rfl⟩
    subst hw0
    have hX8 := hX
    refine W_skip ?_
    refine W_seq ?_
    refine W_region ?_
    refine opCv rfl (r_call Try.func8 Try.nm8 rfl) (new_da 3 100000 _) ?_
    rintro v w3 ⟨p, rfl, hE, hD0⟩
    replace hX := hX.trans hE
    refine op rfl (r_assignV (v := .pointer _) rfl) ?_
    refine WL_nil ?_
    refine W_seq ?_
    refine W_region ?_
    refine op rfl (r_moveV (v := .pointer _) rfl) ?_
    refine opCv rfl (r_call Try.func9 Try.nm9 rfl) (open_spec hD0.fa f0 (by omega) l0 i0.al.n) ?_
    rintro v w4 ⟨F2, jb, A1, c1, A2, c2, rfl, hF2, hJ2, _, _, _, _, hFo2⟩
    rw [q0, o0] at hJ2
    have hX2 : Ext W w4 := Below.trans hX (hFo2.below.mono hX8.size)
    replace hX := hX2
    generalize Dk.new 3 100000 = D0 at *
    refine op rfl (r_moveV (v := .tuple #[jq jb, .slice A1 D0.stateOf.length c1, .slice A2 D0.recsOf.1.length c2, .int .i64 0]) rfl) ?_
    refine op rfl (r_extract (vs := [jq jb, .slice A1 D0.stateOf.length c1, .slice A2 D0.recsOf.1.length c2, .int .i64 0]) rfl rfl) ?_
    refine op rfl (r_extract (vs := [jq jb, .slice A1 D0.stateOf.length c1, .slice A2 D0.recsOf.1.length c2, .int .i64 0]) rfl rfl) ?_
    refine op rfl (r_extract (vs := [jq jb, .slice A1 D0.stateOf.length c1, .slice A2 D0.recsOf.1.length c2, .int .i64 0]) rfl rfl) ?_
    refine op rfl (r_extract (vs := [jq jb, .slice A1 D0.stateOf.length c1, .slice A2 D0.recsOf.1.length c2, .int .i64 0]) rfl rfl) ?_
    refine op rfl (r_assignV (v := jq jb) rfl) ?_
    refine op rfl (r_assignV (v := .slice A1 D0.stateOf.length c1) rfl) ?_
    refine op rfl (r_assignV (v := .slice A2 D0.recsOf.1.length c2) rfl) ?_
    refine op rfl (r_assignV (v := .int .i64 0) rfl) ?_
    refine WL_nil ?_
    refine W_seq ?_
    refine W_seq ?_
    refine W_region ?_
    refine op rfl (r_moveV (v := .int .i64 0) rfl) ?_
    refine op rfl (r_neq rfl rfl) ?_
    refine WL_nil ?_
    refine W_ifp rfl (fun ht33 => ?_) (fun ht33 => ?_)
    · exact absurd rfl ht33
    · refine W_skip ?_
      refine W_seq ?_
      refine W_region ?_
      refine op rfl (r_moveV (v := .pointer _) rfl) ?_
      refine op rfl (r_moveV (v := .int _ _) rfl) ?_
      refine op rfl (r_conv' (r := power) rfl Try.underlying37 Try.underlying3 (wrap_i64 (by omega) (by omega))) ?_
      refine opCv rfl (r_call Try.func22 Try.nm22 rfl) (jarm_fa hJ2.fa power) ?_
      rintro v w5 ⟨hFA5, hFo5⟩
      have hJ5 := hJ2.op hFA5 hFo5
      have hX5 : Ext W w5 := Below.trans hX (hFo5.below.mono hX8.size)
      replace hX := hX5
      have i5 := i0.arm power
      have f5 := f0.arm power
      generalize D0.arm power = D1 at *
      refine WL_nil ?_
      refine W_seq ?_
      refine W_region ?_
      refine op rfl (r_assignV (v := .slice _ _ _) rfl) ?_
      refine WL_nil ?_
      refine W_seq ?_
      refine W_region ?_
      refine op rfl (r_assignV (v := .slice _ _ _) rfl) ?_
      refine WL_nil ?_
      refine W_seq ?_
      refine W_region ?_
      refine op rfl (r_assignV (v := .int _ _) rfl) ?_
      refine WL_nil ?_
      refine W_seq ?_
      refine W_seq ?_
      refine W_region ?_
      refine op rfl (r_assignV (v := .int _ _) rfl) ?_
      refine WL_nil ?_
      refine W_block ?_
      refine W_loop (6 :: 12 :: 13 :: 14 :: 15 :: 16 :: 17 :: 18 :: 19 :: 38 :: 39 :: 40 :: 41 :: 42 :: 43 :: 44 :: 45 :: 46 :: 47 :: 48 :: 49 :: 50 :: 51 :: 52 :: 53 :: 54 :: 55 :: 56 :: 57 :: 58 :: 59 :: 60 :: 61 :: 62 :: 63 :: 64 :: 65 :: 66 :: 67 :: 68 :: 69 :: 70 :: 71 :: 72 :: 73 :: 74 :: 75 :: 76 :: 77 :: 78 :: 79 :: 80 :: 81 :: 82 :: 83 :: 84 :: 85 :: 86 :: 87 :: 88 :: 89 :: 90 :: 91 :: 92 :: 93 :: 94 :: 95 :: 96 :: 97 :: 98 :: 99 :: 100 :: 101 :: 102 :: 103 :: 104 :: 105 :: 106 :: 107 :: 108 :: 109 :: 110 :: 111 :: 112 :: 113 :: 114 :: 115 :: 116 :: 117 :: 118 :: 119 :: 120 :: 121 :: 122 :: 123 :: 124 :: 125 :: 126 :: 127 :: 128 :: 129 :: 130 :: 131 :: 132 :: 133 :: 134 :: 135 :: 136 :: 137 :: 138 :: 139 :: 140 :: 141 :: 142 :: 143 :: 144 :: 145 :: 146 :: 147 :: 148 :: 149 :: []) (fun q e' w' => ∃ (i : Nat) (D : Dk) (s : Nat) (st : List UInt8) (rs : List (List UInt8)) (synced : Nat) (A O C : Ar) (Am : Option Addr) (cm : Nat) (Ast : Option Addr) (cst : Nat) (F : Nat → Prop), JL W w0 w' jb p F i D s st rs synced A O C Am cm Ast (40 * i + 2 * jlong (l.take i)) ∧ q = l.length - i ∧ i ≤ l.length ∧ e' 15 = .int .i64 i ∧ e' 12 = .slice Ast st.length cst ∧ e' 13 = .slice Am rs.length cm ∧ e' 14 = .int .i64 synced) (l.length) ?_ ?_
      · exact ⟨0, D1, 0, [], [], 0, e3, e3, e3, none, 0, none, 0, F2, ⟨i5, f5.mono (by omega), hJ5, Nat.le_refl _, by simp, Nat.le_refl _, Ty.Row.nil, Own.nil, (fun b q => by cases q), hX⟩, by omega, by omega, rfl, rfl, rfl, rfl⟩
      intro k g w' hI
      obtain ⟨i, D, s, st, rs, synced, A, O, C, Am, cm, Ast, cst, F, hJL, hq, hi, h15, h12, h13, h14⟩ := hI
      clear hX
      have hX := hJL.ext
      have hJ := hJL.ja
      have hsi := hJL.si
      have hrn := hJL.rn
      have hsy := hJL.inv.sy
      refine W_set (i := 15) h15 ?_
      refine W_set (i := 12) h12 ?_
      refine W_set (i := 13) h13 ?_
      refine W_set (i := 14) h14 ?_
      refine W_seq ?_
      refine W_seq ?_
      refine W_region ?_
      refine op rfl (r_moveV (v := .int _ _) rfl) ?_
      refine op rfl (r_moveV (v := .slice _ _ _) rfl) ?_
      refine op rfl (r_len_slice rfl Try.underlying46) ?_
      refine op rfl (r_lss rfl rfl) ?_
      refine WL_nil ?_
      refine W_ifp rfl (fun ht41 => ?_) (fun ht41 => ?_)
      · have hlt : i < l.length := by omega
        obtain ⟨g, off, Ab, cb, hAe, hlc, hlb, hrb, hcell⟩ := jdo_cells hA hlt
        have hx0 : ∀ w', Ext W w' → w'.cell? ⟨g, off + (i : Int).toNat * 3 + 0, none⟩ = some (.int .i64 l[i].k) := fun w' h => hcell w' h 0 (by decide)
        have hx2 : ∀ w', Ext W w' → w'.cell? ⟨g, off + (i : Int).toNat * 3 + 2, none⟩ = some (.slice Ab l[i].b.length cb) := fun w' h => hcell w' h 2 (by decide)
        have hj1 := jlong_succ hlt
        have hj2 := jlong_le l (i + 1)
        have hwf := hJL.wf
        have hsm := hJL.inv.small hwf
        have hlen : l[i].b.length ≤ 1000 := by omega
        have hr1 := rec1_len s l[i].b
        refine W_skip ?_
        refine W_seq ?_
        refine W_block ?_
        refine W_seq ?_
        refine W_seq ?_
        refine W_region ?_
        refine op rfl (r_moveV (v := .slice _ _ _) rfl) ?_
        refine op rfl (r_moveV (v := .int _ _) rfl) ?_
        refine op rfl (r_indexAddrN rfl rfl hAe Try.underlying46 Try.sz49 (by omega) (by omega)) ?_
        refine op rfl (r_fieldAddr rfl Try.fld49_0 rfl) ?_
        refine op rfl (r_load (v := .int .i64 l[i].k) rfl Try.underlying3 rfl (hx0 _ hX)) ?_
        refine op rfl (r_eql rfl rfl) ?_
        refine WL_nil ?_
        refine W_ifp rfl (fun ht49 => ?_) (fun ht49 => ?_)
        · have hap := hJL.inv.append l[i].b (by omega)
          have f1 := hwf.append 2 (rec1 s l[i].b)
          have nr1 := append_nr D 2 (rec1 s l[i].b)
          rw [hJL.inv.al.n, hJL.inv.al.room] at nr1
          have hrm : ∀ y ∈ rs ++ [l[i].b], y.length ≤ 1000 := fun y hy => by
            rcases List.mem_append.1 hy with q | q
            · exact hJL.rl y q
            · have : y = l[i].b := by simpa using q
              rw [this]; exact hlen
          refine W_seq ?_
          refine W_region ?_
          refine op rfl (r_moveV (v := jq jb) rfl) ?_
          refine op rfl (r_moveV (v := .slice _ _ _) rfl) ?_
          refine op rfl (r_moveV (v := .int _ _) rfl) ?_
          refine op rfl (r_indexAddrN rfl rfl hAe Try.underlying46 Try.sz49 (by omega) (by omega)) ?_
          refine op rfl (r_fieldAddr rfl Try.fld49_2 rfl) ?_
          refine op rfl (r_load (v := .slice Ab l[i].b.length cb) rfl Try.underlying23 rfl (hx2 _ hX)) ?_
          refine opCv rfl (r_call Try.func10 Try.nm10 rfl) (jappend_spec hJ (by omega) hwf (by omega) Ab cb l[i].b hlc (by omega) (hrb.ext hX)) ?_
          rintro v w6 ⟨rfl, hJ6, hFo6⟩
          have hX6 : Ext W w6 := Below.trans hX (hFo6.below.mono hX8.size)
          replace hX := hX6
          have hO6 := hJL.own.keep (w' := w6) (fun b hb => hFo6.below.block b (Nat.lt_of_lt_of_le hb hX8.size)) (fun _ h => h) (fun g hg => hFo6.same g (hJL.ub g hg).1)
          have hS6 : Ty.byte.Row w6 (old W) Ast st := hJL.st.keep (fun b hb => hFo6.below.block b (Nat.lt_of_lt_of_le hb hX8.size)) (fun _ h => h)
          generalize hD6 : (D.append 2 (rec1 s l[i].b)).1 = D6 at *
          generalize hv6 : (D.append 2 (rec1 s l[i].b)).2 = e6 at *
          refine op rfl (r_assignV (v := .int _ _) rfl) ?_
          refine WL_nil ?_
          refine W_seq ?_
          refine W_region ?_
          refine op rfl (r_moveV (v := .slice _ _ _) rfl) ?_
          refine op rfl (r_moveV (v := .slice _ _ _) rfl) ?_
          refine op rfl (r_moveV (v := .int _ _) rfl) ?_
          refine op rfl (r_indexAddrN rfl rfl hAe Try.underlying46 Try.sz49 (by omega) (by omega)) ?_
          refine op rfl (r_fieldAddr rfl Try.fld49_2 rfl) ?_
          refine op rfl (r_load (v := .slice Ab l[i].b.length cb) rfl Try.underlying23 rfl (hx2 _ hX)) ?_
          refine op_newS rfl (r_buildSlice (vs := [.slice _ _ _]) Try.underlying22 Try.sz23 Try.zero23 rfl rfl rfl) ?_
          intro w16_6 b16_6 E16_6 B16_6 L16_6
          have hG16_6 : W.heap.size ≤ b16_6 := by have := hX.size; omega
          replace hX := hX.trans E16_6
          have hO7 := hO6.ext E16_6 (fun b hb => Nat.lt_of_lt_of_le hb hX6.size)
          obtain ⟨vb, w8, hrb8, hO8, hG8, hn8⟩ := run_append (T := Ty.byte.slice) (F := old W) (P := Try.prog) (t := 22) (ty := 22) (m := [l[i].b]) (c := 1) (A := some ⟨b16_6, 0, none⟩) (B := w0.heap.size) Try.underlying22 Try.sz23 Try.by23 Try.zero23 rfl hO7 (Src.blk (c := [.slice Ab l[i].b.length cb]) B16_6 ⟨Ab, cb, rfl, hlc, hlb, hrb.keep hX.same (fun _ h => h)⟩) (fun b hb => ⟨Nat.lt_of_lt_of_le hb hX.size, fun q => by have := (hO7.lt q).1; have := hX8.size; have hb' : b < W.heap.size := hb; omega⟩) (by simp only [List.length_singleton]; omega) (by simp only [List.length_singleton]; omega) (by have := hJ6.fa.le; have := E16_6.size; omega)
          have hJ7 := hJ6.ext E16_6
          have hjlt := Blk.lt hJ7.bj
          have hJ8 := hJ7.gro hG8 hJL.ub hn8 (fun b q => (hO8.lt q).2)
          have hX9 : Ext W w8 := Below.gro hX hG8 hX.size (fun k hk => Nat.le_trans hX8.size (hO7.lt hk).1)
          replace hX := hX9
          have hub8 : ∀ b, vb.ownBlock = some b → (F b ∨ vb.ownBlock = some b) ∧ b ≠ jb := fun b q => ⟨Or.inr q, fun e => by
            rcases hn8 with h | ⟨g, h, hg⟩
            · rw [h] at q; exact (hJL.ub b q).2 e
            · rw [h] at q; cases q; omega⟩
          have hS8 : Ty.byte.Row w8 (old W) Ast st := (hS6.keep (fun b hb => E16_6.block b (Nat.lt_of_lt_of_le hb hX6.size)) (fun _ h => h)).keep (fun b hb => hG8.block b (Nat.lt_of_lt_of_le hb (Nat.le_trans hX6.size E16_6.size)) (fun q => by have := (hO7.lt q).1; have := hX8.size; have hb' : b < W.heap.size := hb; omega)) (fun _ h => h)
          obtain ⟨Am2, cm2, hvm, hcm2, _⟩ := hO8.read
          subst hvm
          refine op rfl (r_append rfl rfl hrb8) ?_
          refine op rfl (r_assignV (v := .slice Am2 (rs ++ [l[i].b]).length cm2) rfl) ?_
          refine WL_nil ?_
          refine W_seq ?_
          refine W_region ?_
          refine op rfl (r_moveV (v := .int _ _) rfl) ?_
          refine op rfl (r_neq rfl rfl) ?_
          refine WL_nil ?_
          refine W_ifp rfl (fun ht66 => ?_) (fun ht66 => ?_)
          · have hbad := hap.resolve_left (fun q => ht66 q.1)
            have hok : okL (D6.restart keep) st (rs ++ [l[i].b]) synced := by
              obtain ⟨C', hOld⟩ := hbad.2 keep
              exact hOld.okL (by omega) (by simp only [List.length_append]; omega) (fun y hy => by have := hrm y hy; omega)
            obtain ⟨k1, k2, k3⟩ := JL.rows hX8 hS8 hO8 (fun b q => (hub8 b q).1)
            refine W_seq ?_
            refine W_region ?_
            refine op rfl (r_moveV (v := .int _ _) rfl) ?_
            refine op rfl (r_eql rfl rfl) ?_
            refine op_true rfl (r_moveV (v := .bool (decide _)) rfl) (hbad.1) ?_
            refine opG_yes rfl rfl rfl rfl rfl (r_moveV (v := .pointer _) rfl) ?_
            refine opG_yes rfl rfl rfl rfl rfl (r_moveV (v := .int _ _) rfl) ?_
            refine opG_yes rfl rfl rfl rfl rfl (r_moveV (v := .slice Ast st.length cst) rfl) ?_
            refine opG_yes rfl rfl rfl rfl rfl (r_moveV (v := .slice Am2 (rs ++ [l[i].b]).length cm2) rfl) ?_
            refine opG_yes rfl rfl rfl rfl rfl (r_moveV (v := .int _ _) rfl) ?_
            refine opGCv_yes rfl rfl rfl rfl rfl (r_call Try.func23 Try.nm23 rfl) (lasts_spec hJ8.fa f1 (by rw [hr1]; omega) nr1.1 nr1.2 keep Ast cst st k1 Am2 cm2 (rs ++ [l[i].b]) k3 (by simp only [List.length_append, List.length_singleton]; omega) k2 synced) ?_
            rintro v w9 ⟨rfl, hB9⟩
            have hX10 : Ext W w9 := Below.trans hX (hB9.mono hX8.size)
            replace hX := hX10
            refine op rfl (r_pickTV (v := .bool _) rfl rfl) ?_
            refine op_true rfl (r_moveV (v := .bool (decide _)) rfl) (hok) ?_
            refine opGCv_yes rfl rfl rfl rfl rfl (r_call Try.func7 Try.nm7 rfl) (known_spec _) ?_
            rintro v w11 ⟨rfl, hE⟩
            replace hX := hX.trans hE
            refine op rfl (r_pickTV (v := .bool _) rfl rfl) ?_
            refine op rfl (r_assignV (v := .bool _) rfl) ?_
            refine WL_nil ?_
            refine W_ret (blk_ret (blk_ret (finX_ret ?_)))
            refine fin1 ?_
            exact ⟨_, rfl, rfl, hX⟩
          · have h0 : e6 = 0 := Classical.byContradiction ht66
            obtain ⟨_, C1, hI1, _⟩ := hap.resolve_right (fun q => by have := q.1; omega)
            have hEnd : JL W w0 w8 jb p (fun b => F b ∨ (Value.slice Am2 (rs ++ [l[i].b]).length cm2).ownBlock = some b) (i + 1) D6 s st (rs ++ [l[i].b]) synced A O C1 Am2 cm2 Ast (40 * (i + 1) + 2 * jlong (l.take (i + 1))) :=
              ⟨hI1, f1.mono (by rw [hr1]; omega), hJ8, by omega, hrm, by simp only [List.length_append, List.length_singleton]; omega, hS8, hO8, hub8, hX⟩
            refine W_skip ?_
            refine W_seq ?_
            refine W_seq ?_
            refine W_region ?_
            refine op rfl (r_moveV (v := .slice _ _ _) rfl) ?_
            refine op rfl (r_moveV (v := .int _ _) rfl) ?_
            refine op rfl (r_indexAddrN rfl rfl hAe Try.underlying46 Try.sz49 (by omega) (by omega)) ?_
            refine op rfl (r_fieldAddr rfl Try.fld49_0 rfl) ?_
            refine op rfl (r_load (v := .int .i64 l[i].k) rfl Try.underlying3 rfl (hx0 _ hX)) ?_
            refine op rfl (r_eql rfl rfl) ?_
            refine WL_nil ?_
            refine W_ifp rfl (fun ht85 => ?_) (fun ht85 => ?_)
            · omega
            · refine W_skip ?_
              refine W_seq ?_
              refine W_region ?_
              refine op rfl (r_moveV (v := .slice _ _ _) rfl) ?_
              refine op rfl (r_moveV (v := .int _ _) rfl) ?_
              refine op rfl (r_indexAddrN rfl rfl hAe Try.underlying46 Try.sz49 (by omega) (by omega)) ?_
              refine op rfl (r_fieldAddr rfl Try.fld49_0 rfl) ?_
              refine op rfl (r_load (v := .int .i64 l[i].k) rfl Try.underlying3 rfl (hx0 _ hX)) ?_
              refine op rfl (r_eql rfl rfl) ?_
              refine WL_nil ?_
              refine W_ifp rfl (fun ht110 => ?_) (fun ht110 => ?_)
              · omega
              · refine W_skip ?_
                refine W_region ?_
                refine op rfl (r_moveV (v := .int _ _) rfl) ?_
                refine op rfl (r_add' rfl rfl (wrap_i64 (by omega) (by omega))) ?_
                refine op rfl (r_assignV (v := .int _ _) rfl) ?_
                refine WL_nil ?_
                refine ⟨?_, by repeat (first | with_reducible exact Out.refl _ _ | with_reducible exact Out.mix | refine Out.put rfl ?_ | refine Out.mixin rfl ?_ | exact Out.refl _ _ | exact Out.mix)⟩
                exact ⟨l.length - (i + 1), by omega, i + 1, _, _, _, _, _, _, _, _, _, _, _, _, _, hEnd, rfl, by omega, rfl, rfl, rfl, rfl⟩
        · refine W_skip ?_
          refine W_seq ?_
          refine W_seq ?_
          refine W_region ?_
          refine op rfl (r_moveV (v := .slice _ _ _) rfl) ?_
          refine op rfl (r_moveV (v := .int _ _) rfl) ?_
          refine op rfl (r_indexAddrN rfl rfl hAe Try.underlying46 Try.sz49 (by omega) (by omega)) ?_
          refine op rfl (r_fieldAddr rfl Try.fld49_0 rfl) ?_
          refine op rfl (r_load (v := .int .i64 l[i].k) rfl Try.underlying3 rfl (hx0 _ hX)) ?_
          refine op rfl (r_eql rfl rfl) ?_
          refine WL_nil ?_
          refine W_ifp rfl (fun ht85 => ?_) (fun ht85 => ?_)
          · have hsn := hJL.inv.sync
            have f1 := hwf.sync 2
            have nr1 := sync_nr D 2
            rw [hJL.inv.al.n, hJL.inv.al.room] at nr1
            refine W_seq ?_
            refine W_region ?_
            refine op rfl (r_moveV (v := jq jb) rfl) ?_
            refine opCv rfl (r_call Try.func15 Try.nm15 rfl) (jsync_spec hJ hwf (by omega)) ?_
            rintro v w6 ⟨rfl, hJ6, hFo6⟩
            have hX6 : Ext W w6 := Below.trans hX (hFo6.below.mono hX8.size)
            replace hX := hX6
            have hO6 := hJL.own.keep (w' := w6) (fun b hb => hFo6.below.block b (Nat.lt_of_lt_of_le hb hX8.size)) (fun _ h => h) (fun g hg => hFo6.same g (hJL.ub g hg).1)
            have hS6 : Ty.byte.Row w6 (old W) Ast st := hJL.st.keep (fun b hb => hFo6.below.block b (Nat.lt_of_lt_of_le hb hX8.size)) (fun _ h => h)
            generalize hD6 : (D.sync 2).1 = D6 at *
            generalize hv6 : (D.sync 2).2 = e6 at *
            refine op rfl (r_assignV (v := .int _ _) rfl) ?_
            refine WL_nil ?_
            refine W_seq ?_
            refine W_seq ?_
            refine W_region ?_
            refine op rfl (r_moveV (v := .int _ _) rfl) ?_
            refine op rfl (r_neq rfl rfl) ?_
            refine WL_nil ?_
            refine W_ifp rfl (fun ht89 => ?_) (fun ht89 => ?_)
            · have hbad := hsn.resolve_left (fun q => ht89 q.1)
              have hok : okL (D6.restart keep) st rs synced := by
                obtain ⟨C', hOld⟩ := hbad.2 keep
                exact hOld.okL (by omega) hsy (fun y hy => by have := hJL.rl y hy; omega)
              obtain ⟨k1, k2, k3⟩ := JL.rows hX8 hS6 hO6 (fun b q => (hJL.ub b q).1)
              refine W_seq ?_
              refine W_region ?_
              refine op rfl (r_moveV (v := .int _ _) rfl) ?_
              refine op rfl (r_eql rfl rfl) ?_
              refine op_true rfl (r_moveV (v := .bool (decide _)) rfl) (hbad.1) ?_
              refine opG_yes rfl rfl rfl rfl rfl (r_moveV (v := .pointer _) rfl) ?_
              refine opG_yes rfl rfl rfl rfl rfl (r_moveV (v := .int _ _) rfl) ?_
              refine opG_yes rfl rfl rfl rfl rfl (r_moveV (v := .slice Ast st.length cst) rfl) ?_
              refine opG_yes rfl rfl rfl rfl rfl (r_moveV (v := .slice Am rs.length cm) rfl) ?_
              refine opG_yes rfl rfl rfl rfl rfl (r_moveV (v := .int _ _) rfl) ?_
              refine opGCv_yes rfl rfl rfl rfl rfl (r_call Try.func23 Try.nm23 rfl) (lasts_spec hJ6.fa f1 (by omega) nr1.1 nr1.2 keep Ast cst st k1 Am cm rs k3 (by omega) k2 synced) ?_
              rintro v w9 ⟨rfl, hB9⟩
              have hX10 : Ext W w9 := Below.trans hX (hB9.mono hX8.size)
              replace hX := hX10
              refine op rfl (r_pickTV (v := .bool _) rfl rfl) ?_
              refine op_true rfl (r_moveV (v := .bool (decide _)) rfl) (hok) ?_
              refine opGCv_yes rfl rfl rfl rfl rfl (r_call Try.func7 Try.nm7 rfl) (known_spec _) ?_
              rintro v w11 ⟨rfl, hE⟩
              replace hX := hX.trans hE
              refine op rfl (r_pickTV (v := .bool _) rfl rfl) ?_
              refine op rfl (r_assignV (v := .bool _) rfl) ?_
              refine WL_nil ?_
              refine W_ret (blk_ret (blk_ret (finX_ret ?_)))
              refine fin1 ?_
              exact ⟨_, rfl, rfl, hX⟩
            · have h0 : e6 = 0 := Classical.byContradiction ht89
              obtain ⟨_, C1, hI1, _⟩ := hsn.resolve_right (fun q => by have := q.1; omega)
              have hEnd : JL W w0 w6 jb p F (i + 1) D6 s st rs rs.length A O C1 Am cm Ast (40 * (i + 1) + 2 * jlong (l.take (i + 1))) :=
                ⟨hI1, f1.mono (by omega), hJ6, by omega, hJL.rl, by omega, hS6, hO6, hJL.ub, hX⟩
              refine W_skip ?_
              refine W_region ?_
              refine op rfl (r_moveV (v := .slice _ _ _) rfl) ?_
              refine op rfl (r_len_slice rfl Try.underlying22) ?_
              refine op rfl (r_assignV (v := .int _ _) rfl) ?_
              refine WL_nil ?_
              refine W_seq ?_
              refine W_region ?_
              refine op rfl (r_moveV (v := .slice _ _ _) rfl) ?_
              refine op rfl (r_moveV (v := .int _ _) rfl) ?_
              refine op rfl (r_indexAddrN rfl rfl hAe Try.underlying46 Try.sz49 (by omega) (by omega)) ?_
              refine op rfl (r_fieldAddr rfl Try.fld49_0 rfl) ?_
              refine op rfl (r_load (v := .int .i64 l[i].k) rfl Try.underlying3 rfl (hx0 _ hX)) ?_
              refine op rfl (r_eql rfl rfl) ?_
              refine WL_nil ?_
              refine W_ifp rfl (fun ht110 => ?_) (fun ht110 => ?_)
              · omega
              · refine W_skip ?_
                refine W_region ?_
                refine op rfl (r_moveV (v := .int _ _) rfl) ?_
                refine op rfl (r_add' rfl rfl (wrap_i64 (by omega) (by omega))) ?_
                refine op rfl (r_assignV (v := .int _ _) rfl) ?_
                refine WL_nil ?_
                refine ⟨?_, by repeat (first | with_reducible exact Out.refl _ _ | with_reducible exact Out.mix | refine Out.put rfl ?_ | refine Out.mixin rfl ?_ | exact Out.refl _ _ | exact Out.mix)⟩
                exact ⟨l.length - (i + 1), by omega, i + 1, _, _, _, _, _, _, _, _, _, _, _, _, _, hEnd, rfl, by omega, rfl, rfl, rfl, rfl⟩
          · have hEnd : JL W w0 w' jb p F (i + 1) D s st rs synced A O C Am cm Ast (40 * (i + 1) + 2 * jlong (l.take (i + 1))) := ⟨hJL.inv, hwf.mono (by omega), hJ, by omega, hJL.rl, by omega, hJL.st, hJL.own, hJL.ub, hX⟩
            refine W_skip ?_
            refine W_seq ?_
            refine W_region ?_
            refine op rfl (r_moveV (v := .slice _ _ _) rfl) ?_
            refine op rfl (r_moveV (v := .int _ _) rfl) ?_
            refine op rfl (r_indexAddrN rfl rfl hAe Try.underlying46 Try.sz49 (by omega) (by omega)) ?_
            refine op rfl (r_fieldAddr rfl Try.fld49_0 rfl) ?_
            refine op rfl (r_load (v := .int .i64 l[i].k) rfl Try.underlying3 rfl (hx0 _ hX)) ?_
            refine op rfl (r_eql rfl rfl) ?_
            refine WL_nil ?_
            refine W_ifp rfl (fun ht110 => ?_) (fun ht110 => ?_)
            · have hck := hJL.inv.ckpt l[i].b (by omega) (by omega) (fun y hy => by have := hJL.rl y hy; omega) (by omega)
              refine W_seq ?_
              refine W_region ?_
              refine op rfl (r_moveV (v := jq jb) rfl) ?_
              refine op rfl (r_moveV (v := .slice _ _ _) rfl) ?_
              refine op rfl (r_moveV (v := .int _ _) rfl) ?_
              refine op rfl (r_indexAddrN rfl rfl hAe Try.underlying46 Try.sz49 (by omega) (by omega)) ?_
              refine op rfl (r_fieldAddr rfl Try.fld49_2 rfl) ?_
              refine op rfl (r_load (v := .slice Ab l[i].b.length cb) rfl Try.underlying23 rfl (hx2 _ hX)) ?_
              refine opCv rfl (r_call Try.func16 Try.nm16 rfl) (ckpt_spec hJ hwf (by omega) (by omega) Ab cb l[i].b hlc (by omega) (hrb.ext hX)) ?_
              rintro v w6 ⟨e6, rfl, D6, s6, hCk, hJ6, hFo6⟩
              have hX6 : Ext W w6 := Below.trans hX (hFo6.below.mono hX8.size)
              replace hX := hX6
              have hO6 := hJL.own.keep (w' := w6) (fun b hb => hFo6.below.block b (Nat.lt_of_lt_of_le hb hX8.size)) (fun _ h => h) (fun g hg => hFo6.same g (hJL.ub g hg))
              have hS6 : Ty.byte.Row w6 (old W) Ast st := hJL.st.keep (fun b hb => hFo6.below.block b (Nat.lt_of_lt_of_le hb hX8.size)) (fun _ h => h)
              have hres : WF D6 (40 * i + 2 * jlong (l.take i) + 38 + 2 * l[i].b.length) ∧ D6.n = 3 ∧ D6.room = 100000 ∧ ((e6 = 0 ∧ s6 = s + 1 ∧ ∃ A' O' C', Inv D6 100000 (s + 1) l[i].b [] 0 A' O' C') ∨ (e6 = 10 ∧ (okL (D6.restart keep) st rs synced ∨ okL (D6.restart keep) l[i].b [] 0))) := by
                rcases hck with ⟨z, C', hI, _⟩ | ⟨j, hj, z, zn, hok⟩
                · obtain ⟨rfl, rfl, rfl⟩ := hCk.ok_of z
                  have := stg_nr D s l[i].b 5
                  exact ⟨hwf.stg s _ (by omega), by rw [this.1, hJL.inv.al.n], by rw [this.2, hJL.inv.al.room], Or.inl ⟨rfl, rfl, _, _, _, hI⟩⟩
                · obtain ⟨rfl, rfl⟩ := hCk.no_of hj z (by rw [zn]; decide)
                  have := stg_nr D s l[i].b (j + 1)
                  exact ⟨hwf.stg s _ (by omega), by rw [this.1, hJL.inv.al.n], by rw [this.2, hJL.inv.al.room], Or.inr ⟨zn, hok keep⟩⟩
              obtain ⟨f1, n1, m1, hres⟩ := hres
              refine op rfl (r_assignV (v := .int _ _) rfl) ?_
              refine WL_nil ?_
              refine W_seq ?_
              refine W_seq ?_
              refine W_region ?_
              refine op rfl (r_moveV (v := .int _ _) rfl) ?_
              refine op rfl (r_neq rfl rfl) ?_
              refine WL_nil ?_
              refine W_ifp rfl (fun ht119 => ?_) (fun ht119 => ?_)
              · have hbad := hres.resolve_left (fun q => ht119 q.1)
                refine W_seq ?_
                refine W_region ?_
                refine op rfl (r_moveV (v := .pointer _) rfl) ?_
                refine opCv rfl (r_call Try.func24 Try.nm24 rfl) (jcopy_da hJ6.fa.da f1 (by omega) (by omega)) ?_
                rintro v w7 ⟨p2, rfl, hE7, hDA7⟩
                obtain ⟨k1, k2, k3⟩ := JL.rows (F := F) hX8 hS6 hO6 (fun b q => (hJL.ub b q).1)
                have hlt6 := hJ6.fa.lt
                have hle6 := hJ6.fa.le
                have kl : ∀ b, (b < w0.heap.size ∨ F b) → b < w6.heap.size := fun b hb => hb.elim (fun q => by omega) (hlt6 b)
                have k1' : Ty.byte.Row w7 (fun b => b < w6.heap.size ∨ False) Ast st := k1.keep (fun b hb => hE7.block b (kl b hb)) (fun b hb => Or.inl (kl b hb))
                have k2' : Ty.byte.slice.Row w7 (fun b => b < w6.heap.size ∨ False) Am rs := k2.keep (fun b hb => hE7.block b (kl b hb)) (fun b hb => Or.inl (kl b hb))
                replace hX := hX.trans hE7
                refine op rfl (r_assignV (v := .pointer _) rfl) ?_
                refine WL_nil ?_
                refine W_seq ?_
                refine W_region ?_
                refine op rfl (r_moveV (v := .int _ _) rfl) ?_
                refine op rfl (r_eql rfl rfl) ?_
                refine op_true rfl (r_moveV (v := .bool (decide _)) rfl) (hbad.1) ?_
                refine opG_yes rfl rfl rfl rfl rfl (r_moveV (v := .pointer _) rfl) ?_
                refine opG_yes rfl rfl rfl rfl rfl (r_moveV (v := .int _ _) rfl) ?_
                refine opG_yes rfl rfl rfl rfl rfl (r_moveV (v := .slice Ast st.length cst) rfl) ?_
                refine opG_yes rfl rfl rfl rfl rfl (r_moveV (v := .slice Am rs.length cm) rfl) ?_
                refine opG_yes rfl rfl rfl rfl rfl (r_moveV (v := .int _ _) rfl) ?_
                refine opGCv_yes rfl rfl rfl rfl rfl (r_call Try.func23 Try.nm23 rfl) (lasts_spec hDA7.fa f1 (by omega) n1 m1 keep Ast cst st k1' Am cm rs k3 (by omega) k2' synced) ?_
                rintro v w8 ⟨rfl, hB8⟩
                have hE68 : Ext w6 w8 := Below.trans hE7 hB8
                have hX10 : Ext W w8 := hX6.trans hE68
                replace hX := hX10
                refine opG_split rfl rfl rfl rfl rfl (r_moveV (v := .bool (decide _)) rfl) (fun hg131 => ?_) (fun hg131 => ?_)
                · refine opG_no rfl rfl rfl rfl rfl ?_
                  refine opG_no rfl rfl rfl rfl rfl ?_
                  refine opG_no rfl rfl rfl rfl rfl ?_
                  refine opG_no rfl rfl rfl rfl rfl ?_
                  refine opG_no rfl rfl rfl rfl rfl ?_
                  refine opG_no rfl rfl rfl rfl rfl ?_
                  refine opG_no rfl rfl rfl rfl rfl ?_
                  refine opG_no rfl rfl rfl rfl rfl ?_
                  refine opG_yes rfl rfl rfl rfl rfl (r_pickTV (v := .bool _) rfl rfl) ?_
                  refine op rfl (r_pickTV (v := .bool _) rfl rfl) ?_
                  refine op rfl (r_moveV (v := .bool _) rfl) ?_
                  refine opGCv_yes rfl rfl rfl rfl rfl (r_call Try.func7 Try.nm7 rfl) (known_spec _) ?_
                  rintro v w11 ⟨rfl, hE⟩
                  replace hX := hX.trans hE
                  refine op rfl (r_pickTV (v := .bool _) rfl rfl) ?_
                  refine op rfl (r_assignV (v := .bool _) rfl) ?_
                  refine WL_nil ?_
                  refine W_ret (blk_ret (blk_ret (finX_ret ?_)))
                  refine fin1 ?_
                  exact ⟨_, rfl, rfl, hX⟩
                · refine opG_yes rfl rfl rfl rfl rfl (r_moveV (v := .pointer _) rfl) ?_
                  refine opG_yes rfl rfl rfl rfl rfl (r_moveV (v := .int _ _) rfl) ?_
                  refine opG_yes rfl rfl rfl rfl rfl (r_moveV (v := .slice _ _ _) rfl) ?_
                  refine opG_yes rfl rfl rfl rfl rfl (r_moveV (v := .int _ _) rfl) ?_
                  refine opG_yes rfl rfl rfl rfl rfl (r_indexAddrN rfl rfl hAe Try.underlying46 Try.sz49 (by omega) (by omega)) ?_
                  refine opG_yes rfl rfl rfl rfl rfl (r_fieldAddr rfl Try.fld49_2 rfl) ?_
                  refine opG_yes rfl rfl rfl rfl rfl (r_load (v := .slice Ab l[i].b.length cb) rfl Try.underlying23 rfl (hx2 _ hX)) ?_
                  refine opGCv_yes rfl rfl rfl rfl rfl (r_call Try.func23 Try.nm23 rfl) (lasts_spec (hJ6.fa.ext hE68) f1 (by omega) n1 m1 keep Ab cb l[i].b (hrb.keep hX.same (fun b hb ↦ Or.inl (Nat.lt_of_lt_of_le hb hX8.size))) none 0 [] (Nat.le_refl _) (by simp) Ty.Row.nil 0) ?_
                  rintro v w9 ⟨rfl, hB9⟩
                  have hX11 : Ext W w9 := Below.trans hX (hB9.mono hX8.size)
                  replace hX := hX11
                  refine opG_yes rfl rfl rfl rfl rfl (r_pickFV (v := .bool _) rfl rfl) ?_
                  refine op rfl (r_pickTV (v := .bool _) rfl rfl) ?_
                  refine op_true rfl (r_moveV (v := .bool (decide _)) rfl) (hbad.2.resolve_left hg131) ?_
                  refine opGCv_yes rfl rfl rfl rfl rfl (r_call Try.func7 Try.nm7 rfl) (known_spec _) ?_
                  rintro v w11 ⟨rfl, hE⟩
                  replace hX := hX.trans hE
                  refine op rfl (r_pickTV (v := .bool _) rfl rfl) ?_
                  refine op rfl (r_assignV (v := .bool _) rfl) ?_
                  refine WL_nil ?_
                  refine W_ret (blk_ret (blk_ret (finX_ret ?_)))
                  refine fin1 ?_
                  exact ⟨_, rfl, rfl, hX⟩
              · have h0 : e6 = 0 := Classical.byContradiction ht119
                obtain ⟨_, hs6, A', O', C1, hI1⟩ := hres.resolve_right (fun q => by have := q.1; omega)
                rw [hs6] at hJ6
                have hEnd : JL W w0 w6 jb p F (i + 1) D6 (s + 1) l[i].b [] 0 A' O' C1 none 0 Ab (40 * (i + 1) + 2 * jlong (l.take (i + 1))) :=
                  ⟨hI1, f1.mono (by omega), hJ6, by omega, by simp, by simp, hrb.keep hX.same (fun _ h => h), Own.nil, (fun b q => by cases q), hX⟩
                refine W_skip ?_
                refine W_seq ?_
                refine W_region ?_
                refine op rfl (r_moveV (v := .slice _ _ _) rfl) ?_
                refine op rfl (r_moveV (v := .int _ _) rfl) ?_
                refine op rfl (r_indexAddrN rfl rfl hAe Try.underlying46 Try.sz49 (by omega) (by omega)) ?_
                refine op rfl (r_fieldAddr rfl Try.fld49_2 rfl) ?_
                refine op rfl (r_load (v := .slice Ab l[i].b.length cb) rfl Try.underlying23 rfl (hx2 _ hX)) ?_
                refine op rfl (r_assignV (v := .slice _ _ _) rfl) ?_
                refine WL_nil ?_
                refine W_seq ?_
                refine W_region ?_
                refine op rfl (r_assignV (v := .slice _ _ _) rfl) ?_
                refine WL_nil ?_
                refine W_region ?_
                refine op rfl (r_assignV (v := .int _ _) rfl) ?_
                refine WL_nil ?_
                refine W_region ?_
                refine op rfl (r_moveV (v := .int _ _) rfl) ?_
                refine op rfl (r_add' rfl rfl (wrap_i64 (by omega) (by omega))) ?_
                refine op rfl (r_assignV (v := .int _ _) rfl) ?_
                refine WL_nil ?_
                refine ⟨?_, by repeat (first | with_reducible exact Out.refl _ _ | with_reducible exact Out.mix | refine Out.put rfl ?_ | refine Out.mixin rfl ?_ | exact Out.refl _ _ | exact Out.mix)⟩
                exact ⟨l.length - (i + 1), by omega, i + 1, _, _, _, _, _, _, _, _, _, _, _, _, _, hEnd, rfl, by omega, rfl, rfl, rfl, rfl⟩
            · refine W_skip ?_
              refine W_region ?_
              refine op rfl (r_moveV (v := .int _ _) rfl) ?_
              refine op rfl (r_add' rfl rfl (wrap_i64 (by omega) (by omega))) ?_
              refine op rfl (r_assignV (v := .int _ _) rfl) ?_
              refine WL_nil ?_
              refine ⟨?_, by repeat (first | with_reducible exact Out.refl _ _ | with_reducible exact Out.mix | refine Out.put rfl ?_ | refine Out.mixin rfl ?_ | exact Out.refl _ _ | exact Out.mix)⟩
              exact ⟨l.length - (i + 1), by omega, i + 1, _, _, _, _, _, _, _, _, _, _, _, _, _, hEnd, rfl, by omega, rfl, rfl, rfl, rfl⟩
      · have hok : okL (D.restart keep) st rs synced := (hJL.inv.old hJL.inv.al.de keep).okL (by omega) hsy (fun y hy => by have := hJL.rl y hy; omega)
        obtain ⟨k1, k2, k3⟩ := JL.rows hX8 hJL.st hJL.own (fun b q => (hJL.ub b q).1)
        have hjle := jlong_le l i
        refine W_exit (blk_hit ?_)
        refine W_seq ?_
        refine W_region ?_
        refine op rfl (r_moveV (v := .pointer _) rfl) ?_
        refine op rfl (r_moveV (v := .int _ _) rfl) ?_
        refine op rfl (r_moveV (v := .slice Ast st.length cst) rfl) ?_
        refine op rfl (r_moveV (v := .slice Am rs.length cm) rfl) ?_
        refine op rfl (r_moveV (v := .int _ _) rfl) ?_
        refine opCv rfl (r_call Try.func23 Try.nm23 rfl) (lasts_spec hJ.fa hJL.wf (by omega) hJL.inv.al.n hJL.inv.al.room keep Ast cst st k1 Am cm rs k3 (by omega) k2 synced) ?_
        rintro v w9 ⟨rfl, hB9⟩
        have hX10 : Ext W w9 := Below.trans hX (hB9.mono hX8.size)
        replace hX := hX10
        refine op_true rfl (r_moveV (v := .bool (decide _)) rfl) (hok) ?_
        refine opGCv_yes rfl rfl rfl rfl rfl (r_call Try.func7 Try.nm7 rfl) (known_spec _) ?_
        rintro v w11 ⟨rfl, hE⟩
        replace hX := hX.trans hE
        refine op rfl (r_pickTV (v := .bool _) rfl rfl) ?_
        refine op rfl (r_assignV (v := .bool _) rfl) ?_
        refine WL_nil ?_
        refine W_ret (finX_ret ?_)
        refine fin1 ?_
        exact ⟨_, rfl, rfl, hX⟩
end Go.Proofs.Ytlidigdlcjhkfaa
