/-
  The walks of the chapter's own disk: a step is done, an area set.
-/
import Derived.Test.YtfgffaphpedimaaFacts
import Derived.Test.YtfgffaphpedimaaDiskRW
namespace Go.Proofs.Ytfgffaphpedimaa
open Go Go.Eng Go.RowKit Go.Proofs
set_option linter.unusedVariables false
set_option linter.unusedSimpArgs false
set_option maxHeartbeats 1000000

theorem rdoneG (x : UInt8) (A : Option Addr) (c : Nat) (l : List UInt8) (w : World) (hl : l.length ≤ 1099511627776) {F : Nat → Prop} (hF : ∀ b, F b → b < w.heap.size) (hA : Ty.byte.Row w F A l) :
    Calls Try.prog 47 #[.slice A l.length c, (St.grow x).rv] w (fun en w' => ∃ v, en = .returned v ∧ Ext w w' ∧ Bs w.heap.size 5 w' v (l ++ [x])) := by
  refine calls' (n := 22) (rs := #[.tmp 4]) (l := [.slice A l.length c, .agg #[.int .u8 x.toNat, .int .i64 (-1)]]) Try.func47 rfl rfl rfl rfl rfl ?_
  have hX := Ext.refl w
  refine W_seq ?_
  refine W_region ?_
  refine op_box (v := .agg _) rfl rfl ?_
  intro w0_0 b0_0 E0_0 B0_0 L0_0
  have hG0_0 : w.heap.size ≤ b0_0 := by have := hX.size; omega
  replace hX := hX.trans E0_0
  refine op rfl (r_assignV (v := .slice _ _ _) rfl) ?_
  refine WL_nil ?_
  refine W_seq ?_
  refine W_seq ?_
  refine W_region ?_
  refine op rfl (r_fieldAddr rfl Try.fld88_1 rfl) ?_
  refine op rfl (r_load (v := .int _ _) rfl Try.underlying3 rfl (Blk.cell B0_0 rfl)) ?_
  refine op rfl (r_geq rfl rfl) ?_
  refine WL_nil ?_
  refine W_ifp rfl (fun ht8 => ?_) (fun ht8 => ?_)
  · exact absurd ht8 (by decide)
  · refine W_skip ?_
    refine W_seq ?_
    refine W_region ?_
    refine op rfl (r_assignV (v := .slice _ _ _) rfl) ?_
    refine WL_nil ?_
    refine W_seq ?_
    refine W_region ?_
    refine op rfl (r_moveV (v := .slice _ _ _) rfl) ?_
    refine op rfl (r_moveV (v := .slice _ _ _) rfl) ?_
    refine op_app flat_byte rfl rfl rfl Try.underlying23 Try.sz5 Try.by5 Try.zero5 rfl (hX) (Own.nil) (Row.fext hA hF hX) (by simp only [List.length_nil]; omega) (by simp only [List.length_nil]; omega) ?_
    intro v4_2 w4_2 O4_2 X4_2 G4_2
    have hE4 : Ext w0_0 w4_2 := Gro.ext G4_2
    replace B0_0 := Blk.ext B0_0 hE4
    replace hX := X4_2
    rw [List.nil_append] at O4_2
    refine op rfl (r_assignV (v := v4_2) rfl) ?_
    refine WL_nil ?_
    refine W_seq ?_
    refine W_region ?_
    refine op rfl (r_moveV (v := v4_2) rfl) ?_
    refine op rfl (r_fieldAddr rfl Try.fld88_0 rfl) ?_
    refine op rfl (r_load (v := .int _ _) rfl Try.underlying5 rfl (Blk.cell B0_0 rfl)) ?_
    refine op_newS rfl (r_buildSlice (vs := [.int _ _]) Try.underlying23 Try.sz5 Try.zero5 rfl rfl rfl) ?_
    intro w5_3 b5_3 E5_3 B5_3 L5_3
    have hG5_3 : w.heap.size ≤ b5_3 := by have := hX.size; omega
    have hNb0_0_5_3 : b0_0 ≠ b5_3 := by have := Blk.lt B0_0; omega
    replace B0_0 := Blk.ext B0_0 E5_3
    replace hX := hX.trans E5_3
    refine op_app (v := v4_2) flat_byte rfl rfl rfl Try.underlying23 Try.sz5 Try.by5 Try.zero5 rfl (hX) (own_fext O4_2 E5_3) ((row_one B5_3 trivial : Ty.byte.Row w5_3 (old w5_3) (some ⟨b5_3, 0, none⟩) [x])) (by simp only [List.length_singleton]; omega) (by simp only [List.length_singleton]; omega) ?_
    intro v5_4 w5_4 O5_4 X5_4 G5_4
    refine op rfl (r_assignV (v := v5_4) rfl) ?_
    refine WL_nil ?_
    refine W_seq ?_
    refine W_region ?_
    refine op rfl (r_moveV (v := v5_4) rfl) ?_
    refine op rfl (r_assignV (v := v5_4) rfl) ?_
    refine WL_nil ?_
    refine W_ret (finX_ret ?_)
    refine fin1 ?_
    exact ⟨_, rfl, X5_4, O5_4⟩
theorem rdoneC (n : Nat) (A : Option Addr) (c : Nat) (l : List UInt8) (w : World) (hn : n ≤ l.length) (hc : l.length ≤ c) :
    Calls Try.prog 47 #[.slice A l.length c, (St.cut n).rv] w (fun en w' => ∃ v, en = .returned v ∧ Ext w w' ∧ v = .slice A n c) := by
  refine calls' (n := 22) (rs := #[.tmp 4]) (l := [.slice A l.length c, .agg #[.int .u8 0, .int .i64 n]]) Try.func47 rfl rfl rfl rfl rfl ?_
  have hX := Ext.refl w
  refine W_seq ?_
  refine W_region ?_
  refine op_box (v := .agg _) rfl rfl ?_
  intro w0_0 b0_0 E0_0 B0_0 L0_0
  have hG0_0 : w.heap.size ≤ b0_0 := by have := hX.size; omega
  replace hX := hX.trans E0_0
  refine op rfl (r_assignV (v := .slice _ _ _) rfl) ?_
  refine WL_nil ?_
  refine W_seq ?_
  refine W_seq ?_
  refine W_region ?_
  refine op rfl (r_fieldAddr rfl Try.fld88_1 rfl) ?_
  refine op rfl (r_load (v := .int _ _) rfl Try.underlying3 rfl (Blk.cell B0_0 rfl)) ?_
  refine op rfl (r_geq rfl rfl) ?_
  refine WL_nil ?_
  refine W_ifp rfl (fun ht8 => ?_) (fun ht8 => ?_)
  · refine W_seq ?_
    refine W_region ?_
    refine op rfl (r_moveV (v := .slice _ _ _) rfl) ?_
    refine op rfl (r_fieldAddr rfl Try.fld88_1 rfl) ?_
    refine op rfl (r_load (v := .int _ _) rfl Try.underlying3 rfl (Blk.cell B0_0 rfl)) ?_
    refine op rfl (r_sliceHi (j := n) rfl rfl Try.underlying23 Try.sz5 (by omega)) ?_
    refine op rfl (r_assignV (v := .slice _ _ _) rfl) ?_
    refine WL_nil ?_
    refine W_ret (finX_ret ?_)
    refine fin1 ?_
    exact ⟨_, rfl, hX, rfl⟩
  · exact absurd (show (n : Int) ≥ 0 by omega) ht8
theorem rdone_spec (s : St) (A : Option Addr) (c : Nat) (l : List UInt8) (w : World) (hs : s.ok l) (hc : l.length ≤ c) (hl : l.length ≤ 1099511627776) {F : Nat → Prop} (hF : ∀ b, F b → b < w.heap.size) (hA : Ty.byte.Row w F A l) :
    Calls Try.prog 47 #[.slice A l.length c, s.rv] w (fun en w' => ∃ v, en = .returned v ∧ ∃ A' c', v = .slice A' (s.run l).length c' ∧ (s.run l).length ≤ c' ∧ Ty.byte.Row w' (Nw F w w') A' (s.run l) ∧ Ext w w') := by
  cases s with
  | grow x =>
    refine (rdoneG x A c l w hl hF hA).mono ?_
    rintro en w' ⟨v, rfl, h1, h2⟩
    obtain ⟨A', c', h3, h4, h5⟩ := h2.read
    refine ⟨v, rfl, A', c', h3, h4, h5.keep (fun _ _ => rfl) ?_, h1⟩
    rintro b (hb | hb)
    · exact hb.elim
    · exact Or.inr (h2.lt hb)
  | cut n =>
    have hn : n ≤ l.length := hs
    refine (rdoneC n A c l w hn hc).mono ?_
    rintro en w' ⟨v, rfl, h1, rfl⟩
    have e : (l.take n).length = n := by simp; omega
    refine ⟨_, rfl, A, c, ?_, ?_, (Row.fext hA hF h1).take n |>.keep (fun _ _ => rfl) (fun b hb => Or.inl hb), h1⟩
    · show _ = Value.slice A (l.take n).length c
      rw [e]
    · show (l.take n).length ≤ c
      omega
theorem rset_spec (D : Dk) (A : Option Addr) (c : Nat) (a : Int) (x : Ar) (v1 v2 v3 : Value) (w : World) {F : Nat → Prop} (hF : ∀ b, F b → b < w.heap.size) (h : RA w F A c D) (hn : D.n ≤ 8) (ha : 0 ≤ a ∧ a.toNat < D.n)
    (h1 : SL Ty.byte w F v1 x.now) (h2 : SL Ty.byte w F v2 x.lasts) (h3 : SL stR w F v3 x.pend) :
    Calls Try.prog 46 #[D.rv A c, .int .i64 a, .agg #[v1, v2, v3]] w (fun en w' => ∃ v, en = .returned v ∧ ∃ A' c', v = (D.upd a.toNat x).rv A' c' ∧ RA w' (Nw F w w') A' c' (D.upd a.toNat x) ∧ Ext w w') := by
  obtain ⟨a1, a2⟩ := ha
  have hone : v1.oneCell' = true ∧ v2.oneCell' = true ∧ v3.oneCell' = true := ⟨h1.one, h2.one, h3.one⟩
  refine calls' (n := 19) (rs := #[.cell 6 40]) (l := [D.rv A c, .int .i64 a, .agg #[v1, v2, v3]]) Try.func46 rfl rfl rfl rfl rfl ?_
  have hX := Ext.refl w
  refine W_seq ?_
  refine W_region ?_
  refine op_box (v := .agg _) rfl rfl ?_
  intro w0_0 b0_0 E0_0 B0_0 L0_0
  have hG0_0 : w.heap.size ≤ b0_0 := by have := hX.size; omega
  replace hX := hX.trans E0_0
  refine op_box (v := .agg _) rfl rfl ?_
  intro w0_1 b0_1 E0_1 B0_1 L0_1
  have hG0_1 : w.heap.size ≤ b0_1 := by have := hX.size; omega
  have hNb0_0_0_1 : b0_0 ≠ b0_1 := by have := Blk.lt B0_0; omega
  replace B0_0 := Blk.ext B0_0 E0_1
  replace hX := hX.trans E0_1
  refine op_alloc rfl Try.zero40 ?_
  intro w0_2 b0_2 E0_2 B0_2 L0_2
  have hG0_2 : w.heap.size ≤ b0_2 := by have := hX.size; omega
  have hNb0_0_0_2 : b0_0 ≠ b0_2 := by have := Blk.lt B0_0; omega
  replace B0_0 := Blk.ext B0_0 E0_2
  have hNb0_1_0_2 : b0_1 ≠ b0_2 := by have := Blk.lt B0_1; omega
  replace B0_1 := Blk.ext B0_1 E0_2
  replace hX := hX.trans E0_2
  refine WL_nil ?_
  refine W_seq ?_
  refine W_region ?_
  refine op rfl (r_assignV (v := .slice _ _ _) rfl) ?_
  refine WL_nil ?_
  refine W_seq ?_
  refine W_region ?_
  refine op rfl (r_moveV (v := .slice _ _ _) rfl) ?_
  refine op rfl (r_fieldAddr rfl Try.fld40_0 rfl) ?_
  refine op rfl (r_load (v := .slice _ _ _) rfl Try.underlying38 rfl (Blk.cell B0_0 rfl)) ?_
  have hrow : arR.Row w0_2 F A D.l := Row.fext h.2 hF hX
  obtain ⟨vA, w2, hr2, hO2, hG2, _⟩ := run_append (T := arR) (F := F) (P := Try.prog) (t := 38) (ty := 38) (m := D.l) (c := c) (v := .slice none 0 0) (l := []) (B := w0_2.heap.size) Try.underlying38 Try.sz77 Try.by77 Try.zero77 rfl Own.nil hrow.src (fun b hb => ⟨Nat.lt_of_lt_of_le (hF b hb) hX.size, fun q => by cases q⟩) (by rw [l_len]; simp only [List.length_nil]; omega) (by rw [l_len]; simp only [List.length_nil]; omega) (Nat.le_refl _)
  rw [l_len] at hr2
  rw [List.nil_append] at hO2
  have hE2 : Ext w0_2 w2 := Gro.ext hG2
  have hlt0 := Blk.lt B0_0
  have hlt1 := Blk.lt B0_1
  have hlt2 := Blk.lt B0_2
  replace B0_0 := Blk.ext B0_0 hE2
  replace B0_1 := Blk.ext B0_1 hE2
  replace B0_2 := Blk.ext B0_2 hE2
  replace hX := hX.trans hE2
  have hR : arR.R w2 F x [v1, v2, v3] := ⟨v1, v2, v3, rfl, h1.keep (fun b hb => hX.block b (hF b hb)) (fun _ h => h), h2.keep (fun b hb => hX.block b (hF b hb)) (fun _ h => h), h3.keep (fun b hb => hX.block b (hF b hb)) (fun _ h => h)⟩
  obtain ⟨g, cap, cs, hvA, hcap, hgB, hcs, hle, hxl, hon, hset⟩ := hO2.storeAt (i := a.toNat) (by rw [l_len]; exact a2) hR (fun b hb => by have := hF b hb; omega)
  rw [l_len] at hvA hcap
  subst hvA
  refine op rfl (r_append rfl rfl hr2) ?_
  refine op rfl (r_assignV (v := .slice (some ⟨g, 0, none⟩) D.n cap) rfl) ?_
  refine WL_nil ?_
  refine W_seq ?_
  refine W_region ?_
  refine op rfl (r_moveV (v := .slice (some ⟨g, 0, none⟩) D.n cap) rfl) ?_
  refine op rfl (r_moveV (v := .int _ _) rfl) ?_
  refine op rfl (r_loadRow rfl B0_1 Try.underlying77 rfl Try.sz77) ?_
  refine op rfl (r_indexAddrN rfl rfl rfl Try.underlying38 Try.sz77 (by omega) (by omega)) ?_
  refine opU (r_storeAt (xs := [v1, v2, v3]) (o := a.toNat * arR.sz) (Eq.trans (b := Value.pointer (some ⟨g, 0 + a.toNat * 3, none⟩)) rfl (by rw [Nat.zero_add]; rfl)) rfl Try.sz77 hcs hle hon) ?_
  have hO3 := hset _ (Chg.setRow _ _ _) hcs.setRow
  have hC3 := Chg.setRow w2 g (cs.toList.take (a.toNat * arR.sz) ++ [v1, v2, v3] ++ cs.toList.drop (a.toNat * arR.sz + [v1, v2, v3].length)).toArray
  generalize w2.setRow g (cs.toList.take (a.toNat * arR.sz) ++ [v1, v2, v3] ++ cs.toList.drop (a.toNat * arR.sz + [v1, v2, v3].length)).toArray = w3 at hO3 hC3 ⊢
  replace B0_0 := Chg.blk hC3 B0_0 (by omega)
  replace B0_1 := Chg.blk hC3 B0_1 (by omega)
  replace B0_2 := Chg.blk hC3 B0_2 (by omega)
  have hX3 := hX.chg hC3 (by have := hX.size; have := hE2.size; omega)
  replace hX := hX3
  have hg3 : g < w3.heap.size := (hO3.lt rfl).2
  refine WL_nil ?_
  refine W_seq ?_
  refine W_region ?_
  refine op rfl (r_moveV (v := .slice (some ⟨g, 0, none⟩) D.n cap) rfl) ?_
  refine op rfl (r_fieldAddr rfl Try.fld40_0 rfl) ?_
  refine op_store (v := .slice (some ⟨g, 0, none⟩) D.n cap) rfl rfl rfl Try.sz38 B0_0 (Nat.le_of_ble_eq_true rfl) ?_
  intro w4_2 C4_2 BB4_2
  replace B0_1 := Chg.blk C4_2 B0_1 (fun q => hNb0_0_0_1 q.symm)
  replace B0_2 := Chg.blk C4_2 B0_2 (fun q => hNb0_0_0_2 q.symm)
  replace hX := hX.chg C4_2 hG0_0
  replace B0_0 := BB4_2
  refine WL_nil ?_
  refine W_seq ?_
  refine W_region ?_
  refine op rfl (r_loadRow rfl B0_0 Try.underlying40 rfl Try.sz40) ?_
  refine op_storeRow rfl rfl Try.sz40 B0_2 rfl rfl ?_
  intro w5_1 C5_1 BB5_1
  replace B0_0 := Chg.blk C5_1 B0_0 hNb0_0_0_2
  replace B0_1 := Chg.blk C5_1 B0_1 hNb0_1_0_2
  replace hX := hX.chg C5_1 hG0_2
  replace B0_2 := BB5_1
  refine WL_nil ?_
  refine W_ret (finX_ret ?_)
  refine fin_cell rfl B0_2 Try.underlying40 rfl Try.sz40 ?_
  refine ⟨_, rfl, some ⟨g, 0, none⟩, cap, rfl, ⟨hcap, ?_⟩, hX⟩
  have hOf := hO3.keep (w' := w5_1) (fun b hb => by rw [hX.block b (hF b hb), hX3.block b (hF b hb)]) (fun _ h => h) (fun q hq => by
    obtain rfl : g = q := by simpa [Value.ownBlock] using hq
    rw [C5_1.block g (Nat.lt_of_lt_of_le hg3 C4_2.size) (by omega), C4_2.block g hg3 (by omega)])
  obtain ⟨A', c', e1, e2, e3⟩ := hOf.read
  simp only [Value.slice.injEq] at e1
  obtain ⟨rfl, _, rfl⟩ := e1
  rw [← l_set]
  refine e3.keep (fun _ _ => rfl) ?_
  rintro b (hb | hb)
  · exact Or.inl hb
  · obtain rfl : g = b := by simpa [Value.ownBlock] using hb
    exact Or.inr ⟨by have := hX3.size; have := hO2.lt (g := g) rfl; have := E0_0.size; have := E0_1.size; have := E0_2.size; omega, (hOf.lt hb).2⟩
theorem runit_n (D : Dk) : D.runit.1.n = D.n := by
  unfold Dk.runit
  split
  · split <;> rfl
  · rfl
theorem runit_ar (D : Dk) : D.runit.1.ar = D.ar := by
  unfold Dk.runit
  split
  · split <;> rfl
  · rfl
theorem rput_spec (D : Dk) (A : Option Addr) (c : Nat) (a : Int) (s : St) (w : World) {F : Nat → Prop} (hF : ∀ b, F b → b < w.heap.size) (h : RA w F A c D) {k : Nat} (hw : WF D k) (hk : k ≤ 1073741824) (ha : 0 ≤ a ∧ a.toNat < D.n) (hs : s.ok (D.ar a.toNat).now) :
    Calls Try.prog 44 #[D.rv A c, .int .i64 a, s.rv] w (fun en w' => ∃ v, en = .returned v ∧ ∃ A' c', v = (D.rput a.toNat s).rv A' c' ∧ RA w' (Nw F w w') A' c' (D.rput a.toNat s) ∧ Ext w w') := by
  have hp1 := hw.p1
  have hp2 := hw.p2
  have hln := hw.len _ ha.2
  have hn8 := hw.n8
  have ha' : 0 ≤ a ∧ a.toNat < D.runit.1.n := by rw [runit_n]; exact ha
  have har : D.runit.1.ar = D.ar := runit_ar D
  have hn1 : D.runit.1.n ≤ 8 := by rw [runit_n]; exact hn8
  have hput : D.rput a.toNat s = if D.runit.2 = true then D.runit.1.put a.toNat s else D.runit.1 := rfl
  have h1 : RA w F A c D.runit.1 := h.eq (runit_n D) (runit_ar D)
  refine calls' (n := 43) (rs := #[.cell 6 40]) (l := [D.rv A c, .int .i64 a, .agg #[.int .u8 s.c, .int .i64 s.n]]) Try.func44 rfl rfl rfl rfl rfl ?_
  have hX := Ext.refl w
  refine W_seq ?_
  refine W_region ?_
  refine op_box (v := .agg _) rfl rfl ?_
  intro w0_0 b0_0 E0_0 B0_0 L0_0
  have hG0_0 : w.heap.size ≤ b0_0 := by have := hX.size; omega
  replace hX := hX.trans E0_0
  refine op_box (v := .agg _) rfl rfl ?_
  intro w0_1 b0_1 E0_1 B0_1 L0_1
  have hG0_1 : w.heap.size ≤ b0_1 := by have := hX.size; omega
  have hNb0_0_0_1 : b0_0 ≠ b0_1 := by have := Blk.lt B0_0; omega
  replace B0_0 := Blk.ext B0_0 E0_1
  replace hX := hX.trans E0_1
  refine op_alloc rfl Try.zero40 ?_
  intro w0_2 b0_2 E0_2 B0_2 L0_2
  have hG0_2 : w.heap.size ≤ b0_2 := by have := hX.size; omega
  have hNb0_0_0_2 : b0_0 ≠ b0_2 := by have := Blk.lt B0_0; omega
  replace B0_0 := Blk.ext B0_0 E0_2
  have hNb0_1_0_2 : b0_1 ≠ b0_2 := by have := Blk.lt B0_1; omega
  replace B0_1 := Blk.ext B0_1 E0_2
  replace hX := hX.trans E0_2
  refine WL_nil ?_
  refine W_seq ?_
  refine W_region ?_
  refine op rfl (r_loadRow rfl B0_0 Try.underlying40 rfl Try.sz40) ?_
  refine opCv rfl (r_call Try.func45 Try.nm45 rfl) (runit_spec D A c _ (by omega) (by omega)) ?_
  rintro v w2 ⟨rfl, hE⟩
  replace B0_0 := Blk.ext B0_0 hE
  replace B0_1 := Blk.ext B0_1 hE
  replace B0_2 := Blk.ext B0_2 hE
  replace hX := hX.trans hE
  refine op rfl (r_moveV (v := .tuple #[D.runit.1.rv A c, .bool D.runit.2]) rfl) ?_
  refine op rfl (r_extract (vs := [D.runit.1.rv A c, .bool D.runit.2]) rfl rfl) ?_
  refine op rfl (r_extract (vs := [D.runit.1.rv A c, .bool D.runit.2]) rfl rfl) ?_
  refine op_alloc rfl Try.zero40 ?_
  intro w1_5 b1_5 E1_5 B1_5 L1_5
  have hG1_5 : w.heap.size ≤ b1_5 := by have := hX.size; omega
  have hNb0_0_1_5 : b0_0 ≠ b1_5 := by have := Blk.lt B0_0; omega
  replace B0_0 := Blk.ext B0_0 E1_5
  have hNb0_1_1_5 : b0_1 ≠ b1_5 := by have := Blk.lt B0_1; omega
  replace B0_1 := Blk.ext B0_1 E1_5
  have hNb0_2_1_5 : b0_2 ≠ b1_5 := by have := Blk.lt B0_2; omega
  replace B0_2 := Blk.ext B0_2 E1_5
  replace hX := hX.trans E1_5
  refine op_storeRow rfl rfl Try.sz40 B1_5 rfl rfl ?_
  intro w1_6 C1_6 BB1_6
  replace B0_0 := Chg.blk C1_6 B0_0 hNb0_0_1_5
  replace B0_1 := Chg.blk C1_6 B0_1 hNb0_1_1_5
  replace B0_2 := Chg.blk C1_6 B0_2 hNb0_2_1_5
  replace hX := hX.chg C1_6 hG1_5
  replace B1_5 := BB1_6
  refine op rfl (r_assignV (v := .bool D.runit.2) rfl) ?_
  refine WL_nil ?_
  refine W_seq ?_
  refine W_seq ?_
  refine W_region ?_
  refine op rfl (r_moveV (v := .bool D.runit.2) rfl) ?_
  refine op rfl (r_notB (b := D.runit.2) rfl) ?_
  refine WL_nil ?_
  refine W_if rfl (fun ht17 => ?_) (fun ht17 => ?_)
  · refine W_seq ?_
    refine W_region ?_
    refine op rfl (r_loadRow rfl B1_5 Try.underlying40 rfl Try.sz40) ?_
    refine op_storeRow rfl rfl Try.sz40 B0_2 rfl rfl ?_
    intro w3_1 C3_1 BB3_1
    replace B0_0 := Chg.blk C3_1 B0_0 hNb0_0_0_2
    replace B0_1 := Chg.blk C3_1 B0_1 hNb0_1_0_2
    replace B1_5 := Chg.blk C3_1 B1_5 (fun q => hNb0_2_1_5 q.symm)
    replace hX := hX.chg C3_1 hG0_2
    replace B0_2 := BB3_1
    refine WL_nil ?_
    refine W_ret (finX_ret ?_)
    refine fin_cell rfl B0_2 Try.underlying40 rfl Try.sz40 ?_
    first
      | (rw [hput, if_pos hok]
         exact ⟨_, rfl, A', c', rfl, (hRA.store (X := fun x => x = b0_2) hF (fun x q => by subst q; exact Nat.lt_of_lt_of_le hb2 hE3.size) hXw3 hE9 C8_11 rfl).av, hX⟩)
      | (have hno : D.runit.2 = false := by simpa using ht17
         rw [hput, if_neg (by rw [hno]; exact Bool.false_ne_true)]
         exact ⟨_, rfl, A, c, rfl, h1.keep (fun b hb => hX.block b (hF b hb)) (fun b hb => Or.inl hb), hX⟩)
  · have hok : D.runit.2 = true := by simpa using ht17
    obtain ⟨g, off, A1, c1, A2, c2, A3, c3, hA, hg, hc1, hr1, hc2, hr2, hc3, hr3, hcell⟩ := h1.cells hF ha'.2
    obtain ⟨x1, x2, x3⟩ := hcell _ hX
    refine W_skip ?_
    refine W_seq ?_
    refine W_region ?_
    refine op rfl (r_fieldAddr rfl Try.fld40_0 rfl) ?_
    refine op rfl (r_load (v := .slice _ _ _) rfl Try.underlying38 rfl (Blk.cell B1_5 rfl)) ?_
    refine op rfl (r_moveV (v := .int _ _) rfl) ?_
    refine op rfl (r_indexAddrN rfl rfl hA Try.underlying38 Try.sz77 (by omega) (by omega)) ?_
    refine op rfl (r_load_agg (cs := [.slice A1 (D.runit.1.ar a.toNat).now.length c1, .slice A2 (D.runit.1.ar a.toNat).lasts.length c2, .slice A3 (D.runit.1.ar a.toNat).pend.length c3]) rfl Try.underlying77 rfl Try.sz77 rfl (fun q hq => match q, hq with | 0, _ => x1 | 1, _ => x2 | 2, _ => x3)) ?_
    refine op_alloc rfl Try.zero77 ?_
    intro w4_5 b4_5 E4_5 B4_5 L4_5
    have hG4_5 : w.heap.size ≤ b4_5 := by have := hX.size; omega
    have hNb0_0_4_5 : b0_0 ≠ b4_5 := by have := Blk.lt B0_0; omega
    replace B0_0 := Blk.ext B0_0 E4_5
    have hNb0_1_4_5 : b0_1 ≠ b4_5 := by have := Blk.lt B0_1; omega
    replace B0_1 := Blk.ext B0_1 E4_5
    have hNb0_2_4_5 : b0_2 ≠ b4_5 := by have := Blk.lt B0_2; omega
    replace B0_2 := Blk.ext B0_2 E4_5
    have hNb1_5_4_5 : b1_5 ≠ b4_5 := by have := Blk.lt B1_5; omega
    replace B1_5 := Blk.ext B1_5 E4_5
    replace hX := hX.trans E4_5
    refine op_storeRow rfl rfl Try.sz77 B4_5 rfl rfl ?_
    intro w4_6 C4_6 BB4_6
    replace B0_0 := Chg.blk C4_6 B0_0 hNb0_0_4_5
    replace B0_1 := Chg.blk C4_6 B0_1 hNb0_1_4_5
    replace B0_2 := Chg.blk C4_6 B0_2 hNb0_2_4_5
    replace B1_5 := Chg.blk C4_6 B1_5 hNb1_5_4_5
    replace hX := hX.chg C4_6 hG4_5
    replace B4_5 := BB4_6
    refine WL_nil ?_
    refine W_seq ?_
    refine W_region ?_
    refine op rfl (r_assignV (v := .slice _ _ _) rfl) ?_
    refine WL_nil ?_
    refine W_seq ?_
    refine W_region ?_
    refine op rfl (r_moveV (v := .slice _ _ _) rfl) ?_
    refine op rfl (r_fieldAddr rfl Try.fld77_2 rfl) ?_
    refine op rfl (r_load (v := .slice _ _ _) rfl Try.underlying75 rfl (Blk.cell B4_5 rfl)) ?_
    refine op_app0 flat_stR rfl rfl rfl Try.underlying75 Try.sz88 Try.by88 Try.zero88 rfl (Nat.le_refl _) (Own.nil) (Row.fext hr3 hF hX) (by rw [har]; simp only [List.length_nil]; omega) (by rw [har]; simp only [List.length_nil]; omega) ?_
    intro v6_3 w6_3 O6_3 G6_3
    have hE6 : Ext w4_6 w6_3 := Gro.ext G6_3
    have hl0 := Blk.lt B0_0
    have hl1 := Blk.lt B0_1
    have hl2 := Blk.lt B0_2
    have hl3 := Blk.lt B1_5
    have hl4 := Blk.lt B4_5
    replace B0_0 := Blk.ext B0_0 hE6
    replace B0_1 := Blk.ext B0_1 hE6
    replace B0_2 := Blk.ext B0_2 hE6
    replace B1_5 := Blk.ext B1_5 hE6
    replace B4_5 := Blk.ext B4_5 hE6
    have hs4 := hX.size
    replace hX := hX.trans hE6
    rw [List.nil_append] at O6_3
    refine op rfl (r_assignV (v := v6_3) rfl) ?_
    refine WL_nil ?_
    refine W_seq ?_
    refine W_region ?_
    refine op rfl (r_moveV (v := v6_3) rfl) ?_
    refine op rfl (r_loadRow rfl B0_1 Try.underlying88 rfl Try.sz88) ?_
    refine op_newS rfl (r_buildRows (vs := [[.int _ _, .int _ _]]) Try.underlying75 Try.sz88 Try.zero88 rfl rfl rfl) ?_
    intro w7_2 b7_2 E7_2 B7_2 L7_2
    have hG7_2 : w.heap.size ≤ b7_2 := by have := hX.size; omega
    have hNb0_0_7_2 : b0_0 ≠ b7_2 := by have := Blk.lt B0_0; omega
    replace B0_0 := Blk.ext B0_0 E7_2
    have hNb0_1_7_2 : b0_1 ≠ b7_2 := by have := Blk.lt B0_1; omega
    replace B0_1 := Blk.ext B0_1 E7_2
    have hNb0_2_7_2 : b0_2 ≠ b7_2 := by have := Blk.lt B0_2; omega
    replace B0_2 := Blk.ext B0_2 E7_2
    have hNb1_5_7_2 : b1_5 ≠ b7_2 := by have := Blk.lt B1_5; omega
    replace B1_5 := Blk.ext B1_5 E7_2
    have hNb4_5_7_2 : b4_5 ≠ b7_2 := by have := Blk.lt B4_5; omega
    replace B4_5 := Blk.ext B4_5 E7_2
    replace hX := hX.trans E7_2
    refine op_app0 (v := v6_3) flat_stR rfl rfl rfl Try.underlying75 Try.sz88 Try.by88 Try.zero88 rfl (Nat.le_trans hE6.size E7_2.size) (own_fext O6_3 E7_2) ((row_st s B7_2 (Blk.lt B7_2) : stR.Row w7_2 (old w7_2) (some ⟨b7_2, 0, none⟩) [s])) (by rw [har]; simp only [List.length_singleton]; omega) (by rw [har]; simp only [List.length_singleton]; omega) ?_
    intro v7_3 w7_3 O7_3 G7_3
    replace B0_0 := gro_blk G7_3 B0_0 (fun q => by have := O6_3.lt q; omega)
    replace B0_1 := gro_blk G7_3 B0_1 (fun q => by have := O6_3.lt q; omega)
    replace B0_2 := gro_blk G7_3 B0_2 (fun q => by have := O6_3.lt q; omega)
    replace B1_5 := gro_blk G7_3 B1_5 (fun q => by have := O6_3.lt q; omega)
    replace B4_5 := gro_blk G7_3 B4_5 (fun q => by have := O6_3.lt q; omega)
    have hX7 : Ext w w7_3 := hX.gro G7_3 hX.size (fun k hk => by have := O6_3.lt hk; omega)
    replace hX := hX7
    obtain ⟨A5, c5, hv5, h5, r5⟩ := O7_3.read
    have r5' : stR.Row w7_3 (fun b => w4_6.heap.size ≤ b ∧ b < w7_3.heap.size) A5 ((D.runit.1.ar a.toNat).pend ++ [s]) := r5.keep (fun _ _ => rfl) (fun b hb => by
      rcases hb with hb | hb
      · exact hb.elim
      · exact O7_3.lt hb)
    subst hv5
    refine op rfl (r_assignV (v := .slice A5 ((D.runit.1.ar a.toNat).pend ++ [s]).length c5) rfl) ?_
    refine WL_nil ?_
    refine W_seq ?_
    refine W_drawF (W0 := w) (fun b : Nat => b = b0_0 ∨ b = b0_1 ∨ b = b1_5 ∨ b = b4_5 ∨ False) Try.wd rfl ?_
    intro wd8 hD
    replace B0_0 := Blk.ext B0_0 hD
    replace B0_1 := Blk.ext B0_1 hD
    replace B0_2 := Blk.ext B0_2 hD
    replace B1_5 := Blk.ext B1_5 hD
    replace B4_5 := Blk.ext B4_5 hD
    replace hX := hX.trans hD
    have DB0_0 := B0_0
    have DB0_1 := B0_1
    have DB1_5 := B1_5
    have DB4_5 := B4_5
    have hS : Ext w wd8 ∧ Same (fun b : Nat => b = b0_0 ∨ b = b0_1 ∨ b = b1_5 ∨ b = b4_5 ∨ False) wd8 wd8 := ⟨hX, fun _ _ => rfl⟩
    refine A_take (i := 0) rfl (by kernel_rfl) (by kernel_rfl) (by kernel_rfl) rfl hS (fun _ hw => r_loadRow rfl (Blk.at DB1_5 (hw.2 _ (Or.inr (Or.inr (Or.inl rfl))))) Try.underlying40 rfl Try.sz40) ?_
    refine A_take (i := 1) rfl (by kernel_rfl) (by kernel_rfl) (by kernel_rfl) rfl hS (fun _ hw => r_moveV (v := .int _ _) rfl) ?_
    refine A_take (i := 2) rfl (by kernel_rfl) (by kernel_rfl) (by kernel_rfl) rfl hS (fun _ hw => r_fieldAddr rfl Try.fld77_0 rfl) ?_
    refine A_take (i := 3) rfl (by kernel_rfl) (by kernel_rfl) (by kernel_rfl) rfl hS (fun _ hw => r_load (v := .slice _ _ _) rfl Try.underlying23 rfl (Blk.cell (Blk.at DB4_5 (hw.2 _ (Or.inr (Or.inr (Or.inr (Or.inl rfl)))))) rfl)) ?_
    refine A_take (i := 4) rfl (by kernel_rfl) (by kernel_rfl) (by kernel_rfl) rfl hS (fun _ hw => r_loadRow rfl (Blk.at DB0_1 (hw.2 _ (Or.inr (Or.inl rfl)))) Try.underlying88 rfl Try.sz88) ?_
    refine A_take (i := 6) rfl (by kernel_rfl) (by kernel_rfl) (by kernel_rfl) rfl hS (fun _ hw => r_fieldAddr rfl Try.fld77_1 rfl) ?_
    refine A_take (i := 7) rfl (by kernel_rfl) (by kernel_rfl) (by kernel_rfl) rfl hS (fun _ hw => r_load (v := .slice _ _ _) rfl Try.underlying23 rfl (Blk.cell (Blk.at DB4_5 (hw.2 _ (Or.inr (Or.inr (Or.inr (Or.inl rfl)))))) rfl)) ?_
    refine A_take (i := 8) rfl (by kernel_rfl) (by kernel_rfl) (by kernel_rfl) rfl hS (fun _ hw => r_moveV (v := .slice A5 ((D.runit.1.ar a.toNat).pend ++ [s]).length c5) rfl) ?_
    refine A_ready1 (i := 5) (by kernel_rfl) ?_
    refine O_call rfl rfl (r_call Try.func47 Try.nm47 rfl) (rdone_spec s A1 c1 (D.runit.1.ar a.toNat).now _ (by rw [har]; exact hs) hc1 (by rw [har]; omega) (fun b hb ↦ Nat.lt_of_lt_of_le (hF b hb) hX.size) (Row.fext hr1 hF hX)) ?_
    rintro v w3 ⟨A4, c4, rfl, h4, r4, hE⟩
    replace B0_0 := Blk.ext B0_0 hE
    replace B0_1 := Blk.ext B0_1 hE
    replace B0_2 := Blk.ext B0_2 hE
    replace B1_5 := Blk.ext B1_5 hE
    replace B4_5 := Blk.ext B4_5 hE
    replace hX := hX.trans hE
    replace hS : Ext w w3 ∧ Same (fun b : Nat => b = b0_0 ∨ b = b0_1 ∨ b = b1_5 ∨ b = b4_5 ∨ False) wd8 w3 := ⟨hX, fun b hb => Or.elim hb (fun q => by subst q; exact Blk.eq B0_0 DB0_0) (fun hb => Or.elim hb (fun q => by subst q; exact Blk.eq B0_1 DB0_1) (fun hb => Or.elim hb (fun q => by subst q; exact Blk.eq B1_5 DB1_5) (fun hb => Or.elim hb (fun q => by subst q; exact Blk.eq B4_5 DB4_5) (fun hb => hb.elim))))⟩
    refine ⟨hS, ?_⟩
    have hE3 := hE
    have hb2 : b0_2 < wd8.heap.size := Nat.lt_of_lt_of_le hl2 (Nat.le_trans hE6.size (Nat.le_trans E7_2.size (Nat.le_trans G7_3.size hD.size)))
    have hsd : w4_6.heap.size ≤ wd8.heap.size := Nat.le_trans hE6.size (Nat.le_trans E7_2.size (Nat.le_trans G7_3.size hD.size))
    have hRA9 : RA w3 (Av (fun x => x = b0_2) F w w3) A c D.runit.1 := h1.init hF hX (fun x q => by subst q; exact hG0_2)
    have sl1 : SL Ty.byte w3 (Av (fun x => x = b0_2) F w w3) (.slice A4 (s.run (D.runit.1.ar a.toNat).now).length c4) (s.run (D.runit.1.ar a.toNat).now) := ⟨A4, c4, rfl, h4, r4.keep (fun _ _ => rfl) (fun b hb => by
      rcases hb with hb | hb
      · exact ⟨fun q => by have := hF b hb; omega, Or.inl hb⟩
      · exact ⟨fun q => by omega, Or.inr ⟨by omega, hb.2⟩⟩)⟩
    have sl2 : SL Ty.byte w3 (Av (fun x => x = b0_2) F w w3) (.slice A2 (D.runit.1.ar a.toNat).lasts.length c2) (D.runit.1.ar a.toNat).lasts := ⟨A2, c2, rfl, hc2, hr2.keep (fun b hb => hX.block b (hF b hb)) (fun b hb => ⟨fun q => by have := hF b hb; omega, Or.inl hb⟩)⟩
    have hEE := hD.trans hE
    have sl3 : SL stR w3 (Av (fun x => x = b0_2) F w w3) (.slice A5 ((D.runit.1.ar a.toNat).pend ++ [s]).length c5) ((D.runit.1.ar a.toNat).pend ++ [s]) := ⟨A5, c5, rfl, h5, r5'.keep (fun b hb => hEE.block b hb.2) (fun b hb => ⟨fun q => by omega, Or.inr ⟨by omega, Nat.lt_of_lt_of_le hb.2 hEE.size⟩⟩)⟩
    have hXw3 := hX
    refine A_take (i := 9) rfl (by kernel_rfl) (by kernel_rfl) (by kernel_rfl) rfl hS (fun _ hw => r_build (cs := [.slice _ _ _, .slice _ _ _, .slice _ _ _]) Try.lay77 (List.forall_mem_cons.2 ⟨rfl, List.forall_mem_cons.2 ⟨rfl, List.forall_mem_cons.2 ⟨rfl, fun _ h => by cases h⟩⟩⟩) rfl rfl) ?_
    refine A_ready1 (i := 10) (by kernel_rfl) ?_
    refine O_call rfl rfl (r_call Try.func46 Try.nm46 rfl) (rset_spec D.runit.1 A c a { D.runit.1.ar a.toNat with now := s.run (D.runit.1.ar a.toNat).now, pend := (D.runit.1.ar a.toNat).pend ++ [s] } _ _ _ _ (Av.lt hF hX) hRA9 hn1 ha' sl1 sl2 sl3) ?_
    rintro v w9 ⟨A', c', rfl, hRA, hE⟩
    replace B0_0 := Blk.ext B0_0 hE
    replace B0_1 := Blk.ext B0_1 hE
    replace B0_2 := Blk.ext B0_2 hE
    replace B1_5 := Blk.ext B1_5 hE
    replace B4_5 := Blk.ext B4_5 hE
    replace hX := hX.trans hE
    replace hS : Ext w w9 ∧ Same (fun b : Nat => b = b0_0 ∨ b = b0_1 ∨ b = b1_5 ∨ b = b4_5 ∨ False) wd8 w9 := ⟨hX, fun b hb => Or.elim hb (fun q => by subst q; exact Blk.eq B0_0 DB0_0) (fun hb => Or.elim hb (fun q => by subst q; exact Blk.eq B0_1 DB0_1) (fun hb => Or.elim hb (fun q => by subst q; exact Blk.eq B1_5 DB1_5) (fun hb => Or.elim hb (fun q => by subst q; exact Blk.eq B4_5 DB4_5) (fun hb => hb.elim))))⟩
    refine ⟨hS, ?_⟩
    have hE9 := hE
    refine A_ready1 (i := 11) (by kernel_rfl) ?_
    refine O_storeRow rfl rfl rfl Try.sz40 B0_2 rfl rfl ?_
    intro w8_11 C8_11 BB8_11
    replace B0_0 := Chg.blk C8_11 B0_0 hNb0_0_0_2
    replace B0_1 := Chg.blk C8_11 B0_1 hNb0_1_0_2
    replace B1_5 := Chg.blk C8_11 B1_5 (fun q => hNb0_2_1_5 q.symm)
    replace B4_5 := Chg.blk C8_11 B4_5 (fun q => hNb0_2_4_5 q.symm)
    replace hX := hX.chg C8_11 hG0_2
    replace B0_2 := BB8_11
    replace hS : Ext w w8_11 ∧ Same (fun b : Nat => b = b0_0 ∨ b = b0_1 ∨ b = b1_5 ∨ b = b4_5 ∨ False) wd8 w8_11 := ⟨hX, fun b hb => Or.elim hb (fun q => by subst q; exact Blk.eq B0_0 DB0_0) (fun hb => Or.elim hb (fun q => by subst q; exact Blk.eq B0_1 DB0_1) (fun hb => Or.elim hb (fun q => by subst q; exact Blk.eq B1_5 DB1_5) (fun hb => Or.elim hb (fun q => by subst q; exact Blk.eq B4_5 DB4_5) (fun hb => hb.elim))))⟩
    refine ⟨hS, ?_⟩
    refine A_done (by kernel_rfl) ?_
    refine W_ret (finX_ret ?_)
    refine fin_cell rfl B0_2 Try.underlying40 rfl Try.sz40 ?_
    first
      | (rw [hput, if_pos hok]
         exact ⟨_, rfl, A', c', rfl, (hRA.store (X := fun x => x = b0_2) hF (fun x q => by subst q; exact Nat.lt_of_lt_of_le hb2 hE3.size) hXw3 hE9 C8_11 rfl).av, hX⟩)
      | (have hno : D.runit.2 = false := by simpa using ht17
         rw [hput, if_neg (by rw [hno]; exact Bool.false_ne_true)]
         exact ⟨_, rfl, A, c, rfl, h1.keep (fun b hb => hX.block b (hF b hb)) (fun b hb => Or.inl hb), hX⟩)
end Go.Proofs.Ytfgffaphpedimaa
