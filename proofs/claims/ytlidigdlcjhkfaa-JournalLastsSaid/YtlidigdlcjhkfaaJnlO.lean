/-
  The walks of package journal: Open.
-/
import Derived.Test.YtlidigdlcjhkfaaFacts
import Derived.Test.YtlidigdlcjhkfaaJnlJ
namespace Go.Proofs.Ytlidigdlcjhkfaa
open Go Go.Eng Go.RowKit Go.Proofs
set_option linter.unusedVariables false
set_option linter.unusedSimpArgs false
set_option maxHeartbeats 4000000

theorem open1_spec {p B b0 b1 : Nat} {F : Nat → Prop} {w : World} {D : Dk} (h : FA p B F w D) {k : Nat} (hw : WF D k) (hk : k ≤ 268435456) (n : Nat) (B0 : Blk w b0 #[dq p] 25) (B1 : Blk w b1 #[.int .i64 n] 3) :
    Calls Try.prog 29 #[.pointer (some ⟨b0, 0, none⟩), .pointer (some ⟨b1, 0, none⟩)] w (fun en w' => ∃ v, en = .returned v ∧ v = .int .i64 (D.cut 2 n).2 ∧ FA p B F w' (D.cut 2 n).1 ∧ Fo B F w w') := by
  refine calls' (n := 6) (rs := #[.tmp 2]) (l := [.pointer (some ⟨b0, 0, none⟩), .pointer (some ⟨b1, 0, none⟩)]) Try.func29 rfl rfl rfl rfl rfl ?_
  have hX := Ext.refl w
  refine W_seq ?_
  refine W_region ?_
  refine op rfl (r_assignV (v := .int _ _) rfl) ?_
  refine WL_nil ?_
  refine W_seq ?_
  refine W_region ?_
  refine op rfl (r_load (v := .pointer _) rfl Try.underlying25 rfl (Blk.cell B0 rfl)) ?_
  refine op rfl (r_load (v := .int _ _) rfl Try.underlying3 rfl (Blk.cell B1 rfl)) ?_
  refine opCv rfl (r_call Try.func30 Try.nm30 rfl) (cut_fa h hw (by omega) 2 n) ?_
  rintro v w2 ⟨rfl, hFA, hFo⟩
  refine op rfl (r_assignV (v := .int _ _) rfl) ?_
  refine WL_nil ?_
  refine W_ret (finX_ret ?_)
  refine fin1 ?_
  exact ⟨_, rfl, rfl, hFA, hFo⟩
theorem open2_spec {p B b0 : Nat} {F : Nat → Prop} {w : World} {D : Dk} (h : FA p B F w D) {k : Nat} (hw : WF D k) (hk : k ≤ 268435456) (B0 : Blk w b0 #[dq p] 25) :
    Calls Try.prog 31 #[.pointer (some ⟨b0, 0, none⟩)] w (fun en w' => ∃ v, en = .returned v ∧ v = .int .i64 (D.sync 2).2 ∧ FA p B F w' (D.sync 2).1 ∧ Fo B F w w') := by
  refine calls' (n := 4) (rs := #[.tmp 1]) (l := [.pointer (some ⟨b0, 0, none⟩)]) Try.func31 rfl rfl rfl rfl rfl ?_
  have hX := Ext.refl w
  refine W_seq ?_
  refine W_region ?_
  refine op rfl (r_assignV (v := .int _ _) rfl) ?_
  refine WL_nil ?_
  refine W_seq ?_
  refine W_region ?_
  refine op rfl (r_load (v := .pointer _) rfl Try.underlying25 rfl (Blk.cell B0 rfl)) ?_
  refine opCv rfl (r_call Try.func32 Try.nm32 rfl) (sync_fa h hw (by omega) 2) ?_
  rintro v w2 ⟨rfl, hFA, hFo⟩
  refine op rfl (r_assignV (v := .int _ _) rfl) ?_
  refine WL_nil ?_
  refine W_ret (finX_ret ?_)
  refine fin1 ?_
  exact ⟨_, rfl, rfl, hFA, hFo⟩
def Dk.seqOf (D : Dk) : Nat := (chos (numd (D.read 0)) (numd (D.read 1))).1
def Dk.stateOf (D : Dk) : List UInt8 := (chos (numd (D.read 0)) (numd (D.read 1))).2
def Dk.recsOf (D : Dk) : List (List UInt8) × Nat := Recs (D.read 2) D.seqOf
def Dk.opened (D : Dk) : Dk := if D.recsOf.2 < (D.read 2).length then ((D.cut 2 D.recsOf.2).1.sync 2).1 else D
theorem chos_lt (b c : List UInt8) : (chos (numd b) (numd c)).1 < 2 ^ 64 := by
  have h : ∀ b, (numd b).1 < 2 ^ 64 := fun b => by
    unfold numd
    split
    · simp
    · exact Frame.get_lt _
  unfold chos
  split
  · exact h _
  · exact h _
theorem recs_le (b : List UInt8) (s : Nat) : (Recs b s).2 ≤ b.length ∧ (Recs b s).1.length ≤ b.length := by
  have key : ∀ k (b : List UInt8), b.length ≤ k → (Recs b s).2 ≤ b.length ∧ (Recs b s).1.length ≤ b.length := by
    intro k
    induction k with
    | zero =>
      intro b hb
      rw [Recs_none (rok_short s (by omega))]; simp
    | succ k ih =>
      intro b hb
      by_cases h : Rok b s
      · rw [Recs_some h]
        have h8 := (Frame.next_body b (rok_next h).1).2.1
        have hle := Frame.next_le b
        have := ih (b.drop (Frame.next b).2) (by simp; omega)
        simp only [List.length_drop, List.length_cons] at this ⊢
        omega
      · rw [Recs_none h]; simp
  exact key _ b (Nat.le_refl _)
theorem live_there {D : Dk} (hn : D.n = 3) {a : Int} (h0 : 0 ≤ a) (h1 : a ≤ 2) : D.there a := by unfold Dk.there; rw [hn]; omega
theorem open_spec {p B : Nat} {F : Nat → Prop} {w : World} {D : Dk} (h : FA p B F w D) {k : Nat} (hw : WF D k) (hk : k ≤ 134217728) (hL : Live D) (hn : D.n = 3) :
    Calls Try.prog 9 #[dq p] w (fun en w' => ∃ v, en = .returned v ∧ ∃ (F' : Nat → Prop) (jb : Nat) (A1 : Option Addr) (c1 : Nat) (A2 : Option Addr) (c2 : Nat), v = .tuple #[jq jb, .slice A1 D.stateOf.length c1, .slice A2 D.recsOf.1.length c2, .int .i64 0] ∧ (∀ b, F b → F' b) ∧ JA jb p B F' w' D.opened D.seqOf ∧
      D.stateOf.length ≤ c1 ∧ Ty.byte.Row w' F' A1 D.stateOf ∧ D.recsOf.1.length ≤ c2 ∧ Ty.byte.slice.Row w' F' A2 D.recsOf.1 ∧ Fo B F w w') := by
  have hFl := h.lt
  have hB := h.le
  have hrl : (D.read 2).length ≤ 134217728 := by
    unfold Dk.read
    split
    · rename_i q; have := (hw.len _ (there_nat q).2).1; omega
    · simp
  have hrc := recs_le (D.read 2) D.seqOf
  have hsl := chos_lt (D.read 0) (D.read 1)
  have e1 : D.recsOf = Recs (D.read 2) D.seqOf := rfl
  refine calls' (n := 48) (rs := #[.tmp 2, .tmp 3, .tmp 4, .tmp 5]) (l := [dq p]) Try.func9 rfl rfl rfl rfl rfl ?_
  have hX := Ext.refl w
  refine W_seq ?_
  refine W_region ?_
  refine op_box (v := .pointer _) rfl rfl ?_
  intro w0_0 b0_0 E0_0 B0_0 L0_0
  have hG0_0 : w.heap.size ≤ b0_0 := by have := hX.size; omega
  replace hX := hX.trans E0_0
  refine op rfl (r_assignV (v := .pointer _) rfl) ?_
  refine op rfl (r_assignV (v := .slice _ _ _) rfl) ?_
  refine op rfl (r_assignV (v := .slice _ _ _) rfl) ?_
  refine op rfl (r_assignV (v := .int _ _) rfl) ?_
  refine WL_nil ?_
  refine W_seq ?_
  refine W_block ?_
  refine W_seq ?_
  refine W_region ?_
  refine op rfl (r_load (v := .pointer _) rfl Try.underlying25 rfl (Blk.cell B0_0 rfl)) ?_
  refine op rfl (rp_eql rfl rfl Try.underlying25) ?_
  refine op rfl (r_assignV (v := .bool _) rfl) ?_
  refine WL_nil ?_
  refine W_ifp rfl (fun ht12 => ?_) (fun ht12 => ?_)
  · exact ht12.elim
  · refine W_seq ?_
    refine W_region ?_
    refine op rfl (r_load (v := .pointer _) rfl Try.underlying25 rfl (Blk.cell B0_0 rfl)) ?_
    refine opCv rfl (r_call Try.func25 Try.nm25 rfl) (dead_da (h.da.ext hX)) ?_
    rintro v w1 ⟨rfl, hE⟩
    replace B0_0 := Blk.ext B0_0 hE
    replace hX := hX.trans hE
    refine op rfl (r_assignV (v := .bool _) rfl) ?_
    refine WL_nil ?_
    refine W_if rfl (fun ht15 => ?_) (fun ht15 => ?_)
    · rw [hL.dead] at ht15; cases ht15
    · refine W_skip ?_
      refine W_seq ?_
      refine W_region ?_
      refine op rfl (r_load (v := .pointer _) rfl Try.underlying25 rfl (Blk.cell B0_0 rfl)) ?_
      have hX5 := hX
      refine opCv rfl (r_call Try.func26 Try.nm26 rfl) (chosen_spec (h.da.ext hX) hw (by omega)) ?_
      rintro v w2 ⟨A1, c1, rfl, hE, hc1, hr1⟩
      replace B0_0 := Blk.ext B0_0 hE
      replace hX := hX.trans hE
      have s1 : SB w w2 (.slice A1 D.stateOf.length c1) D.stateOf := SB.pre hX5 ⟨A1, c1, rfl, hc1, hr1⟩
      have hX2 := hX
      refine op rfl (r_moveV (v := .tuple #[.int .u64 D.seqOf, .slice A1 D.stateOf.length c1]) rfl) ?_
      refine op rfl (r_extract (vs := [.int .u64 D.seqOf, .slice A1 D.stateOf.length c1]) rfl rfl) ?_
      refine op rfl (r_extract (vs := [.int .u64 D.seqOf, .slice A1 D.stateOf.length c1]) rfl rfl) ?_
      refine op rfl (r_assignV (v := .int .u64 D.seqOf) rfl) ?_
      refine op rfl (r_assignV (v := .slice A1 D.stateOf.length c1) rfl) ?_
      refine WL_nil ?_
      refine W_seq ?_
      refine W_region ?_
      refine op rfl (r_load (v := .pointer _) rfl Try.underlying25 rfl (Blk.cell B0_0 rfl)) ?_
      refine opCv rfl (r_call Try.func20 Try.nm20 rfl) (read_da' (h.da.ext hX2) hw (by omega) 2) ?_
      rintro v w3 ⟨A3, c3, rfl, hE, hc3, hr3⟩
      replace B0_0 := Blk.ext B0_0 hE
      replace hX := hX.trans hE
      have hE6 := hE
      have hX6 := hX
      refine op rfl (r_assignV (v := .slice _ _ _) rfl) ?_
      refine WL_nil ?_
      refine W_seq ?_
      refine W_region ?_
      refine op rfl (r_moveV (v := .slice _ _ _) rfl) ?_
      refine op rfl (r_moveV (v := .int .u64 D.seqOf) rfl) ?_
      refine opCv rfl (r_call Try.func27 Try.nm27 rfl) (records_spec A3 c3 (D.read 2) D.seqOf _ hc3 (by omega) hr3) ?_
      rintro v w4 ⟨u, rfl, hE, hLB⟩
      replace B0_0 := Blk.ext B0_0 hE
      replace hX := hX.trans hE
      have hE7 := hE
      have hX7 := hX
      obtain ⟨A2, c2, hu, hc2, hr2⟩ := hLB.read
      have hr2' : Ty.byte.slice.Row w4 (fun b => w.heap.size ≤ b ∧ b < w4.heap.size) A2 D.recsOf.1 := hr2.keep (fun _ _ => rfl) (fun b hb => by
        have := hX6.size
        rcases hb with hb | hb
        · have := hb.lt; omega
        · have := hLB.lt hb; omega)
      have hr1' : Ty.byte.Row w4 (fun b => w.heap.size ≤ b ∧ b < w4.heap.size) A1 D.stateOf := (hr1.keep (fun b hb => (hE6.trans hE7).block b hb.lt.2) (fun b hb => hb.ext (hE6.trans hE7)) : Ty.byte.Row w4 (Fb w1 w4) A1 D.stateOf).keep (fun _ _ => rfl) (fun b hb => by have := hb.lt; have := hX5.size; omega)
      subst hu
      refine op rfl (r_moveV (v := .tuple #[.slice A2 D.recsOf.1.length c2, .int .i64 (D.recsOf.2 : Nat)]) rfl) ?_
      refine op rfl (r_extract (vs := [.slice A2 D.recsOf.1.length c2, .int .i64 (D.recsOf.2 : Nat)]) rfl rfl) ?_
      refine op rfl (r_extract (vs := [.slice A2 D.recsOf.1.length c2, .int .i64 (D.recsOf.2 : Nat)]) rfl rfl) ?_
      refine op_alloc rfl Try.zero3 ?_
      intro w7_6 b7_6 E7_6 B7_6 L7_6
      have hG7_6 : w.heap.size ≤ b7_6 := by have := hX.size; omega
      have hNb0_0_7_6 : b0_0 ≠ b7_6 := by have := Blk.lt B0_0; omega
      replace B0_0 := Blk.ext B0_0 E7_6
      replace hX := hX.trans E7_6
      refine op rfl (r_assignV (v := .slice A2 D.recsOf.1.length c2) rfl) ?_
      refine op_store (v := .int .i64 (D.recsOf.2 : Nat)) rfl rfl rfl Try.sz3 B7_6 (Nat.le_of_ble_eq_true rfl) ?_
      intro w7_8 C7_8 BB7_8
      replace B0_0 := Chg.blk C7_8 B0_0 hNb0_0_7_6
      replace hX := hX.chg C7_8 hG7_6
      replace B7_6 := BB7_8
      refine WL_nil ?_
      refine W_seq ?_
      refine W_seq ?_
      refine W_region ?_
      refine op rfl (r_load (v := .int _ _) rfl Try.underlying3 rfl (Blk.cell B7_6 rfl)) ?_
      refine op rfl (r_moveV (v := .slice _ _ _) rfl) ?_
      refine op rfl (r_len_slice rfl Try.underlying23) ?_
      refine op rfl (r_lss rfl rfl) ?_
      refine WL_nil ?_
      refine W_ifp rfl (fun ht34 => ?_) (fun ht34 => ?_)
      · refine W_seq ?_
        refine W_region ?_
        refine op rfl (r_makeFunc) ?_
        refine op rfl (r_makeFunc) ?_
        refine op_newS rfl (r_buildSlice (vs := [_, _]) Try.underlying85 Try.sz38 Try.zero38 rfl rfl rfl) ?_
        intro w9_2 b9_2 E9_2 B9_2 L9_2
        have hG9_2 : w.heap.size ≤ b9_2 := by have := hX.size; omega
        have hNb0_0_9_2 : b0_0 ≠ b9_2 := by have := Blk.lt B0_0; omega
        replace B0_0 := Blk.ext B0_0 E9_2
        have hNb7_6_9_2 : b7_6 ≠ b9_2 := by have := Blk.lt B7_6; omega
        replace B7_6 := Blk.ext B7_6 E9_2
        replace hX := hX.trans E9_2
        have hE79 : Ext w4 w9_2 := (Chg.ext E7_6 (Nat.le_of_eq L7_6) C7_8).trans E9_2
        have hth : D.there 2 := live_there hn (by omega) (by omega)
        have hrd : D.read 2 = (D.ar 2).now := by unfold Dk.read; rw [if_pos hth]; rfl
        have hz2 : (2 : Int).toNat = 2 := rfl
        obtain ⟨c1e, c1l, c1n, c1r, c1a⟩ := live_cut hL (a := 2) (n := (D.recsOf.2 : Int)) hth (by omega) (by rw [hz2, ← hrd]; omega)
        have hth1 : (D.cut 2 (D.recsOf.2 : Int)).1.there 2 := live_there (by rw [c1n]; exact hn) (by omega) (by omega)
        obtain ⟨c2e, c2l, c2n, c2r, c2a⟩ := live_sync c1l (a := 2) hth1
        have hw1 := hw.cut 2 (D.recsOf.2 : Int)
        have hop : D.opened = ((D.cut 2 (D.recsOf.2 : Int)).1.sync 2).1 := by unfold Dk.opened; rw [if_pos (by omega)]
        have hF9 := h.nw hX
        have m0 : Nw F w w9_2 b0_0 := Or.inr ⟨hG0_0, Blk.lt B0_0⟩
        have m1 : Nw F w w9_2 b7_6 := Or.inr ⟨hG7_6, Blk.lt B7_6⟩
        have m2 : Nw F w w9_2 b9_2 := Or.inr ⟨hG9_2, Blk.lt B9_2⟩
        have B0 : Blk w9_2 b0_0 #[dq p] 25 := B0_0
        have B1 : Blk w9_2 b7_6 #[.int .i64 (D.recsOf.2 : Nat)] 3 := B7_6
        have AC := all_spec (b := b9_2) (n := 2) (vs := [.func (.func 29) #[] #[.pointer (some ⟨b0_0, 0, none⟩), .pointer (some ⟨b7_6, 0, none⟩)], .func (.func 31) #[] #[.pointer (some ⟨b0_0, 0, none⟩)]])
          (fun i u => Fo B (Nw F w w9_2) w9_2 u ∧ FA p B (Nw F w w9_2) u (match i with | 0 => D | 1 => (D.cut 2 (D.recsOf.2 : Int)).1 | _ => D.opened)) (fun e u => e = 0 ∧ Fo B (Nw F w w9_2) w9_2 u ∧ FA p B (Nw F w w9_2) u D.opened) w9_2 rfl (by omega) ⟨Fo.refl _, hF9⟩ (fun i u hI => B9_2.at (hI.1.same _ m2)) (by
            intro i hi u hI
            match i, hi, hI with
            | 0, _, hI =>
              refine ⟨_, _, [], [.pointer (some ⟨b0_0, 0, none⟩), .pointer (some ⟨b7_6, 0, none⟩)], rfl, Try.func29, Try.nm29, rfl, (open1_spec hI.2 hw (by omega) D.recsOf.2 (B0.at (hI.1.same _ m0)) (B1.at (hI.1.same _ m1))).mono ?_⟩
              rintro en w' ⟨v, rfl, rfl, hf, ho⟩
              exact ⟨_, rfl, _, rfl, Or.inl ⟨c1e, hI.1.trans ho, hf⟩⟩
            | 1, _, hI =>
              refine ⟨_, _, [], [.pointer (some ⟨b0_0, 0, none⟩)], rfl, Try.func31, Try.nm31, rfl, (open2_spec hI.2 hw1 (by omega) (B0.at (hI.1.same _ m0))).mono ?_⟩
              rintro en w' ⟨v, rfl, rfl, hf, ho⟩
              exact ⟨_, rfl, _, rfl, Or.inl ⟨c2e, hI.1.trans ho, by rw [hop]; exact hf⟩⟩) (fun u hI => ⟨rfl, hI.1, hI.2⟩)
        refine opCv rfl (r_call Try.func28 Try.nm28 rfl) (AC) ?_
        rintro v w5 ⟨e, rfl, rfl, hFo5, hFA5⟩
        have hX9 := hX
        obtain ⟨F9, hF9a, hFA9, hFo9, hB9, hs9, hr9⟩ : ∃ F9 : Nat → Prop, (∀ b, F b → F9 b) ∧ FA p B F9 w5 D.opened ∧ Fo B F w w5 ∧ Blk w5 b0_0 #[dq p] 25 ∧ Ty.byte.Row w5 F9 A1 D.stateOf ∧ Ty.byte.slice.Row w5 F9 A2 D.recsOf.1 := by
          refine ⟨Nw F w w9_2, fun b hb => Or.inl hb, hFA5, (hFo5.weak (fun b hb => Or.inl hb)).pre hFl hB hX9, B0.at (hFo5.same _ m0), ?_, ?_⟩
          · refine (hr1'.keep (F' := Nw F w w9_2) (fun b hb => hE79.block b hb.2) (fun b hb => Or.inr ⟨hb.1, Nat.lt_of_lt_of_le hb.2 hE79.size⟩)).keep (fun b hb => hFo5.same b hb) (fun _ h => h)
          · refine (hr2'.keep (F' := Nw F w w9_2) (fun b hb => hE79.block b hb.2) (fun b hb => Or.inr ⟨hb.1, Nat.lt_of_lt_of_le hb.2 hE79.size⟩)).keep (fun b hb => hFo5.same b hb) (fun _ h => h)
        refine op rfl (r_assignV (v := .int _ _) rfl) ?_
        refine WL_nil ?_
        refine W_seq ?_
        refine W_region ?_
        refine op rfl (r_moveV (v := .int _ _) rfl) ?_
        refine op rfl (r_neq rfl rfl) ?_
        refine WL_nil ?_
        refine W_ifp rfl (fun ht40 => ?_) (fun ht40 => ?_)
        · exact absurd rfl ht40
        · refine W_skip ?_
          refine W_seq ?_
          refine W_region ?_
          refine op rfl (r_load (v := dq p) rfl Try.underlying25 rfl (Blk.cell hB9 rfl)) ?_
          refine op rfl (r_moveV (v := .int .u64 D.seqOf) rfl) ?_
          refine op rfl (r_build (cs := [.pointer _, .int _ _]) Try.lay64 (List.forall_mem_cons.2 ⟨rfl, List.forall_mem_cons.2 ⟨rfl, fun _ h => by cases h⟩⟩) rfl rfl) ?_
          refine op_box (v := .agg _) rfl rfl ?_
          intro w12_3 b12_3 E12_3 B12_3 L12_3
          have hFA12 := hFA9.nw E12_3
          have hFo12 : Fo B F w w12_3 := hFo9.trans (Fo.ofExt (fun b hb => hFA9.lt b (hF9a b hb)) hFA9.le E12_3)
          refine op rfl (r_moveV (v := .slice A1 D.stateOf.length c1) rfl) ?_
          refine op rfl (r_moveV (v := .slice A2 D.recsOf.1.length c2) rfl) ?_
          refine op rfl (r_assignV (v := jq b12_3) rfl) ?_
          refine op rfl (r_assignV (v := .slice A1 D.stateOf.length c1) rfl) ?_
          refine op rfl (r_assignV (v := .slice A2 D.recsOf.1.length c2) rfl) ?_
          refine op rfl (r_assignV (v := .int _ _) rfl) ?_
          refine WL_nil ?_
          refine W_ret (finX_ret ?_)
          refine fin4 ?_
          exact ⟨_, rfl, _, b12_3, A1, c1, A2, c2, rfl, fun b hb => Or.inl (hF9a b hb), ⟨B12_3, hFA12, Or.inr ⟨Nat.le_of_eq L12_3, Blk.lt B12_3⟩, by have := hFA9.le; omega⟩, hc1, hs9.keep (fun b hb => E12_3.block b (hFA9.lt b hb)) (fun b hb => Or.inl hb), hc2, hr9.keep (fun b hb => E12_3.block b (hFA9.lt b hb)) (fun b hb => Or.inl hb), hFo12⟩
      · have hop : D.opened = D := by unfold Dk.opened; rw [if_neg (by omega)]
        have hX8 := hX
        have hE78 : Ext w4 w7_8 := Chg.ext E7_6 (Nat.le_of_eq L7_6) C7_8
        obtain ⟨F9, hF9a, hFA9, hFo9, hB9, hs9, hr9⟩ : ∃ F9 : Nat → Prop, (∀ b, F b → F9 b) ∧ FA p B F9 w7_8 D.opened ∧ Fo B F w w7_8 ∧ Blk w7_8 b0_0 #[dq p] 25 ∧ Ty.byte.Row w7_8 F9 A1 D.stateOf ∧ Ty.byte.slice.Row w7_8 F9 A2 D.recsOf.1 := by
          rw [hop]
          exact ⟨Nw F w w7_8, fun b hb => Or.inl hb, h.nw hX, Fo.ofExt hFl hB hX, B0_0, hr1'.keep (fun b hb => hE78.block b hb.2) (fun b hb => Or.inr ⟨hb.1, Nat.lt_of_lt_of_le hb.2 hE78.size⟩), hr2'.keep (fun b hb => hE78.block b hb.2) (fun b hb => Or.inr ⟨hb.1, Nat.lt_of_lt_of_le hb.2 hE78.size⟩)⟩
        refine W_skip ?_
        refine W_seq ?_
        refine W_region ?_
        refine op rfl (r_load (v := dq p) rfl Try.underlying25 rfl (Blk.cell hB9 rfl)) ?_
        refine op rfl (r_moveV (v := .int .u64 D.seqOf) rfl) ?_
        refine op rfl (r_build (cs := [.pointer _, .int _ _]) Try.lay64 (List.forall_mem_cons.2 ⟨rfl, List.forall_mem_cons.2 ⟨rfl, fun _ h => by cases h⟩⟩) rfl rfl) ?_
        refine op_box (v := .agg _) rfl rfl ?_
        intro w12_3 b12_3 E12_3 B12_3 L12_3
        have hFA12 := hFA9.nw E12_3
        have hFo12 : Fo B F w w12_3 := hFo9.trans (Fo.ofExt (fun b hb => hFA9.lt b (hF9a b hb)) hFA9.le E12_3)
        refine op rfl (r_moveV (v := .slice A1 D.stateOf.length c1) rfl) ?_
        refine op rfl (r_moveV (v := .slice A2 D.recsOf.1.length c2) rfl) ?_
        refine op rfl (r_assignV (v := jq b12_3) rfl) ?_
        refine op rfl (r_assignV (v := .slice A1 D.stateOf.length c1) rfl) ?_
        refine op rfl (r_assignV (v := .slice A2 D.recsOf.1.length c2) rfl) ?_
        refine op rfl (r_assignV (v := .int _ _) rfl) ?_
        refine WL_nil ?_
        refine W_ret (finX_ret ?_)
        refine fin4 ?_
        exact ⟨_, rfl, _, b12_3, A1, c1, A2, c2, rfl, fun b hb => Or.inl (hF9a b hb), ⟨B12_3, hFA12, Or.inr ⟨Nat.le_of_eq L12_3, Blk.lt B12_3⟩, by have := hFA9.le; omega⟩, hc1, hs9.keep (fun b hb => E12_3.block b (hFA9.lt b hb)) (fun b hb => Or.inl hb), hc2, hr9.keep (fun b hb => E12_3.block b (hFA9.lt b hb)) (fun b hb => Or.inl hb), hFo12⟩
end Go.Proofs.Ytlidigdlcjhkfaa
