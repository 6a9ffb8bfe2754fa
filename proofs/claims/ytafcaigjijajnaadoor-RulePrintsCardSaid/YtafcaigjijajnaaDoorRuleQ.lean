/-
  The walks of a buffer (strings.Builder).
-/
import Derived.Test.YtafcaigjijajnaaDoorFacts
import Derived.Test.YtafcaigjijajnaaDoorRuleN
import Derived.Test.YtafcaigjijajnaaDoorGenB
namespace Go.Proofs.YtafcaigjijajnaaDoor
open Go Go.Eng Go.RowKit Go.Proofs
set_option linter.unusedVariables false
set_option linter.unusedSimpArgs false
set_option maxHeartbeats 1000000
set_option maxRecDepth 20000

abbrev BufA (B b : Nat) (w : World) (bs : List UInt8) : Prop := BufAt 66 5 B b w bs
theorem findNext_ne : Extern.findNext Tryd.f73 = none := by kernel_rfl
theorem find_ne : Extern.find Tryd.f73 = some Extern.AbiNoEscape.same := by rfl
theorem lies_b : liesAt Tryd.prog Tryd.prog.depth 66 (2 / Tryd.prog.cellsOf 66) 0 66 1 = true := by kernel_rfl
theorem cells_b : Tryd.prog.cellsOf 5 = 1 := by kernel_rfl
theorem info_b : ∃ j, Tryd.prog.info? 66 = some j ∧ j.size ≠ 0 := by
  obtain ⟨j, h1, h2⟩ := Option.map_eq_some_iff.1 Tryd.sz66
  exact ⟨j, h1, by omega⟩
theorem copyCheck_spec {b : Nat} {A : Option Addr} {v : Value} {w : World} (hb : Blk w b #[.pointer A, v] 66) (hA : A = none ∨ A = some ⟨b, 0, none⟩) :
    Calls Tryd.prog 55 #[.pointer (some ⟨b, 0, none⟩)] w (fun en w' => ∃ u, en = .returned u ∧ u = .tuple #[] ∧ Blk w' b #[.pointer (some ⟨b, 0, none⟩), v] 66 ∧ Mv (fun k => k = b) w w') := by
  obtain ⟨j, hj, hj0⟩ := info_b
  refine calls' (n := 20) (rs := #[]) (l := [.pointer (some ⟨b, 0, none⟩)]) Tryd.func55 rfl rfl rfl rfl rfl ?_
  have hX := Ext.refl w
  refine W_seq ?_
  refine W_region ?_
  refine op rfl (r_moveV (v := .pointer _) rfl) ?_
  refine op rfl (r_nilCheck rfl) ?_
  refine op rfl (r_fieldAddr rfl Tryd.fld66_0 rfl) ?_
  refine op rfl (r_load (v := .pointer A) rfl Tryd.underlying64 rfl (Blk.cell hb rfl)) ?_
  refine op rfl (rp_nil rfl rfl Tryd.underlying64) ?_
  refine WL_nil ?_
  refine W_ifp rfl (fun ht6 => ?_) (fun ht6 => ?_)
  · refine W_region ?_
    refine op rfl (r_moveV (v := .pointer _) rfl) ?_
    refine op rfl (r_moveV (v := .pointer _) rfl) ?_
    refine op rfl (r_toUnsafe rfl Tryd.underlying64 Tryd.underlying101 hj hj0 hb (by simp)) ?_
    refine op rfl (r_noEscape Tryd.func73 Tryd.nm73 rfl findNext_ne find_ne rfl rfl) ?_
    refine op rfl (r_fromUnsafe rfl Tryd.underlying101 Tryd.underlying64 hj hb lies_b) ?_
    refine op rfl (r_nilCheck rfl) ?_
    refine op rfl (r_fieldAddr rfl Tryd.fld66_0 rfl) ?_
    refine op_store (v := .pointer (some ⟨b, 0, none⟩)) rfl rfl rfl Tryd.sz64 hb (Nat.le_of_ble_eq_true rfl) ?_
    intro w1 C1 BB1
    refine WL_nil ?_
    refine fin0 ?_
    first
      | exact ⟨_, rfl, rfl, BB1, (Mv.of_ext hX).trans (Mv.of_chg C1 rfl)⟩
      | exact ⟨_, rfl, rfl, hb, Mv.of_ext hX⟩
  · obtain rfl := hA.resolve_left ht6
    refine W_seq ?_
    refine W_region ?_
    refine op rfl (r_moveV (v := .pointer _) rfl) ?_
    refine op rfl (r_nilCheck rfl) ?_
    refine op rfl (r_fieldAddr rfl Tryd.fld66_0 rfl) ?_
    refine op rfl (r_load (v := .pointer (some ⟨b, 0, none⟩)) rfl Tryd.underlying64 rfl (Blk.cell hb rfl)) ?_
    refine op rfl (r_moveV (v := .pointer _) rfl) ?_
    refine op rfl (rp_same rfl rfl Tryd.underlying64 hj) ?_
    refine WL_nil ?_
    refine W_ifp rfl (fun ht19 => ?_) (fun ht19 => ?_)
    · exact ht19.elim
    · refine W_skip ?_
      refine fin0 ?_
      first
        | exact ⟨_, rfl, rfl, BB1, (Mv.of_ext hX).trans (Mv.of_chg C1 rfl)⟩
        | exact ⟨_, rfl, rfl, hb, Mv.of_ext hX⟩
theorem writeByte_spec {B b : Nat} {bs : List UInt8} {w : World} (c : UInt8) (h : BufA B b w bs) (hl : bs.length + 1 ≤ 140737488355328) (hB : B ≤ w.heap.size) :
    Calls Tryd.prog 35 #[.pointer (some ⟨b, 0, none⟩), .int .u8 (c.toNat : Nat)] w (fun en w' => ∃ u, en = .returned u ∧ u = .nilIface ∧ BufA B b w' (bs ++ [c]) ∧ Mv (bufZ B b) w w') := by
  obtain ⟨A, v, hb, hA, hO, hnl⟩ := h
  refine calls' (n := 17) (rs := #[.tmp 4]) (l := [.pointer (some ⟨b, 0, none⟩), .int .u8 (c.toNat : Nat)]) Tryd.func35 rfl rfl rfl rfl rfl ?_
  have hX := Ext.refl w
  refine W_seq ?_
  refine W_region ?_
  refine op rfl (r_assignV (v := _) rfl) ?_
  refine WL_nil ?_
  refine W_seq ?_
  refine W_region ?_
  refine op rfl (r_moveV (v := .pointer _) rfl) ?_
  refine opCv rfl (r_call Tryd.func55 Tryd.nm55 rfl) (copyCheck_spec hb hA) ?_
  rintro u1 w1 ⟨rfl, hb1, M1⟩
  have hO1 := owns_at hO (w' := w1) (fun k hk => M1.block k (hO.lt k hk).2 (fun q => owns_ne hO hb (by decide) (by rw [hk, q])))
  clear hX
  have hX := Ext.refl w1
  have hbl := hb1.lt
  obtain ⟨Av, cv, rfl⟩ := owns_slice hO
  refine WL_nil ?_
  refine W_seq ?_
  refine W_region ?_
  refine op rfl (r_moveV (v := .pointer _) rfl) ?_
  refine op rfl (r_moveV (v := .pointer _) rfl) ?_
  refine op rfl (r_nilCheck rfl) ?_
  refine op rfl (r_fieldAddr rfl Tryd.fld66_1 rfl) ?_
  refine op rfl (r_load (v := .slice Av bs.length cv) rfl Tryd.underlying45 rfl (Blk.cell hb1 rfl)) ?_
  refine op rfl (r_moveV (v := .int _ _) rfl) ?_
  refine op_newS rfl (r_buildSlice (vs := [.int _ _]) Tryd.underlying45 Tryd.sz5 Tryd.zero5 rfl rfl rfl) ?_
  intro w2_6 b2_6 E2_6 B2_6 L2_6
  have hG2_6 : w1.heap.size ≤ b2_6 := by have := hX.size; omega
  replace hX := hX.trans E2_6
  have hO2 := owns_ext hO1 hX
  have hb2 := hb1.ext hX
  refine op_appRow (l := bs) (m := [c]) rfl rfl rfl Tryd.underlying45 Tryd.sz5 Tryd.by5 Tryd.zero5 hO2 (fun j u hu => by
    have hc := B2_6
    cases j with
    | zero => cases hu; exact Blk.cell hc rfl
    | succ j => simp [Lib.byteCells] at hu) (by simpa using hl) (by have := M1.size; have := hX.size; omega) ?_
  intro v3 w3 hO3 hG3 hn3
  have hb3 := grown_blk hG3 hb2 (owns_ne hO2 hb2 (by decide))
  have M3 : Mv (bufZ B b) w w3 := ((M1.mono (fun k _ q => Or.inl q)).trans (Mv.of_ext hX)).trans (Mv.of_grown hG3 (fun k hk => (hO2.lt k hk).1))
  refine op rfl (r_nilCheck rfl) ?_
  refine op rfl (r_fieldAddr rfl Tryd.fld66_1 rfl) ?_
  refine op_store (v := v3) rfl rfl (owns_cell hO3) Tryd.sz45 hb3 (Nat.le_of_ble_eq_true rfl) ?_
  intro w4 C4 BB4
  refine WL_nil ?_
  refine W_seq ?_
  refine W_region ?_
  refine op rfl (r_assignV (v := _) rfl) ?_
  refine WL_nil ?_
  refine W_ret (finX_ret ?_)
  refine fin1 ?_
  exact ⟨_, rfl, rfl, ⟨_, v3, BB4, Or.inr rfl, owns_at hO3 (fun k hk => C4.block k (hO3.lt k hk).2 (fun q => owns_ne hO3 hb3 (by decide) (by rw [hk, q]))), fun q => hn3 q (hnl (List.append_eq_nil_iff.1 q).1)⟩, M3.trans (Mv.of_chg C4 (Or.inl rfl))⟩
/-- Bytes of a row are written. -/
theorem write_spec {B b : Nat} {bs m : List UInt8} {a : Addr} {cp : Nat} {w : World} (h : BufA B b w bs) (hm : ∀ j u, (Lib.byteCells m)[j]? = some u → w.cell? (a.add j) = some u) (ha : a.block ≠ b) (hl : bs.length + m.length ≤ 140737488355328) (hB : B ≤ w.heap.size) :
    Calls Tryd.prog 36 #[.pointer (some ⟨b, 0, none⟩), .slice (some a) m.length cp] w (fun en w' => ∃ u, en = .returned u ∧ u = .tuple #[.int .i64 m.length, .nilIface] ∧ BufA B b w' (bs ++ m) ∧ Mv (bufZ B b) w w') := by
  obtain ⟨A, v, hb, hA, hO, hnl⟩ := h
  refine calls' (n := 19) (rs := #[.tmp 4, .tmp 5]) (l := [.pointer (some ⟨b, 0, none⟩), .slice (some a) m.length cp]) Tryd.func36 rfl rfl rfl rfl rfl ?_
  have hX := Ext.refl w
  refine W_seq ?_
  refine W_region ?_
  refine op rfl (r_assignV (v := .int _ _) rfl) ?_
  refine op rfl (r_assignV (v := _) rfl) ?_
  refine WL_nil ?_
  refine W_seq ?_
  refine W_region ?_
  refine op rfl (r_moveV (v := .pointer _) rfl) ?_
  refine opCv rfl (r_call Tryd.func55 Tryd.nm55 rfl) (copyCheck_spec hb hA) ?_
  rintro u1 w1 ⟨rfl, hb1, M1⟩
  have hO1 := owns_at hO (w' := w1) (fun k hk => M1.block k (hO.lt k hk).2 (fun q => owns_ne hO hb (by decide) (by rw [hk, q])))
  have hX0 := hX
  clear hX
  have hX := Ext.refl w1
  have hbl := hb1.lt
  obtain ⟨Av, cv, rfl⟩ := owns_slice hO
  refine WL_nil ?_
  refine W_seq ?_
  refine W_region ?_
  refine op rfl (r_moveV (v := .pointer _) rfl) ?_
  refine op rfl (r_moveV (v := .pointer _) rfl) ?_
  refine op rfl (r_nilCheck rfl) ?_
  refine op rfl (r_fieldAddr rfl Tryd.fld66_1 rfl) ?_
  refine op rfl (r_load (v := .slice Av bs.length cv) rfl Tryd.underlying45 rfl (Blk.cell hb1 rfl)) ?_
  refine op rfl (r_moveV (v := .slice _ _ _) rfl) ?_
  refine op_appRow (l := bs) (m := m) rfl rfl rfl Tryd.underlying45 Tryd.sz5 Tryd.by5 Tryd.zero5 hO1 (fun j u hu => by
    have hc := hm j u hu
    have hlt : (a.add j).block < w.heap.size := World.block_lt_of_cell? _ _ hc
    have hbb : (a.add j).block = a.block := by unfold Addr.add; split <;> rfl
    rw [World.cell?_of_block (M1.block _ hlt (by rw [hbb]; exact ha))]
    exact hc) hl (by have := M1.size; omega) ?_
  intro v3 w3 hO3 hG3 hn3
  have hb3 := grown_blk hG3 hb1 (owns_ne hO1 hb1 (by decide))
  have M3 : Mv (bufZ B b) w w3 := (M1.mono (fun k _ q => Or.inl q)).trans (Mv.of_grown hG3 (fun k hk => (hO1.lt k hk).1))
  refine op rfl (r_nilCheck rfl) ?_
  refine op rfl (r_fieldAddr rfl Tryd.fld66_1 rfl) ?_
  refine op_store (v := v3) rfl rfl (owns_cell hO3) Tryd.sz45 hb3 (Nat.le_of_ble_eq_true rfl) ?_
  intro w4 C4 BB4
  refine WL_nil ?_
  refine W_seq ?_
  refine W_region ?_
  refine op rfl (r_moveV (v := .slice _ _ _) rfl) ?_
  refine op rfl (r_len_slice rfl Tryd.underlying45) ?_
  refine op rfl (r_assignV (v := .int _ _) rfl) ?_
  refine op rfl (r_assignV (v := _) rfl) ?_
  refine WL_nil ?_
  refine W_ret (finX_ret ?_)
  refine fin2 ?_
  exact ⟨_, rfl, rfl, ⟨_, v3, BB4, Or.inr rfl, owns_at hO3 (fun k hk => C4.block k (hO3.lt k hk).2 (fun q => owns_ne hO3 hb3 (by decide) (by rw [hk, q]))), fun q => hn3 q (hnl (List.append_eq_nil_iff.1 q).1)⟩, M3.trans (Mv.of_chg C4 (Or.inl rfl))⟩
theorem writeString_spec {B b : Nat} {bs m : List UInt8} {w : World} (h : BufA B b w bs) (hl : bs.length + m.length ≤ 140737488355328) (hB : B ≤ w.heap.size) :
    Calls Tryd.prog 39 #[.pointer (some ⟨b, 0, none⟩), .string (str m)] w (fun en w' => ∃ u, en = .returned u ∧ u = .tuple #[.int .i64 m.length, .nilIface] ∧ BufA B b w' (bs ++ m) ∧ Mv (bufZ B b) w w') := by
  obtain ⟨A, v, hb, hA, hO, hnl⟩ := h
  refine calls' (n := 19) (rs := #[.tmp 4, .tmp 5]) (l := [.pointer (some ⟨b, 0, none⟩), .string (str m)]) Tryd.func39 rfl rfl rfl rfl rfl ?_
  have hX := Ext.refl w
  refine W_seq ?_
  refine W_region ?_
  refine op rfl (r_assignV (v := .int _ _) rfl) ?_
  refine op rfl (r_assignV (v := _) rfl) ?_
  refine WL_nil ?_
  refine W_seq ?_
  refine W_region ?_
  refine op rfl (r_moveV (v := .pointer _) rfl) ?_
  refine opCv rfl (r_call Tryd.func55 Tryd.nm55 rfl) (copyCheck_spec hb hA) ?_
  rintro u1 w1 ⟨rfl, hb1, M1⟩
  have hO1 := owns_at hO (w' := w1) (fun k hk => M1.block k (hO.lt k hk).2 (fun q => owns_ne hO hb (by decide) (by rw [hk, q])))
  clear hX
  have hX := Ext.refl w1
  obtain ⟨Av, cv, rfl⟩ := owns_slice hO
  refine WL_nil ?_
  refine W_seq ?_
  refine W_region ?_
  refine op rfl (r_moveV (v := .pointer _) rfl) ?_
  refine op rfl (r_moveV (v := .pointer _) rfl) ?_
  refine op rfl (r_nilCheck rfl) ?_
  refine op rfl (r_fieldAddr rfl Tryd.fld66_1 rfl) ?_
  refine op rfl (r_load (v := .slice Av bs.length cv) rfl Tryd.underlying45 rfl (Blk.cell hb1 rfl)) ?_
  refine op rfl (r_moveV (v := .string _) rfl) ?_
  refine op_appStr (l := bs) (m := m) rfl rfl rfl Tryd.underlying45 Tryd.underlying9 Tryd.sz5 Tryd.by5 Tryd.zero5 hO1 hl (by have := M1.size; omega) ?_
  intro v3 w3 hO3 hG3 hn3
  have hb3 := grown_blk hG3 hb1 (owns_ne hO1 hb1 (by decide))
  have M3 : Mv (bufZ B b) w w3 := (M1.mono (fun k _ q => Or.inl q)).trans (Mv.of_grown hG3 (fun k hk => (hO1.lt k hk).1))
  refine op rfl (r_nilCheck rfl) ?_
  refine op rfl (r_fieldAddr rfl Tryd.fld66_1 rfl) ?_
  refine op_store (v := v3) rfl rfl (owns_cell hO3) Tryd.sz45 hb3 (Nat.le_of_ble_eq_true rfl) ?_
  intro w4 C4 BB4
  refine WL_nil ?_
  refine W_seq ?_
  refine W_region ?_
  refine op rfl (r_moveV (v := .string _) rfl) ?_
  refine op rfl (rt_len rfl Tryd.underlying9) ?_
  refine op rfl (r_assignV (v := .int _ _) rfl) ?_
  refine op rfl (r_assignV (v := _) rfl) ?_
  refine WL_nil ?_
  refine W_ret (finX_ret ?_)
  refine fin2 ?_
  exact ⟨_, rfl, rfl, ⟨_, v3, BB4, Or.inr rfl, owns_at hO3 (fun k hk => C4.block k (hO3.lt k hk).2 (fun q => owns_ne hO3 hb3 (by decide) (by rw [hk, q]))), fun q => hn3 q (hnl (List.append_eq_nil_iff.1 q).1)⟩, M3.trans (Mv.of_chg C4 (Or.inl rfl))⟩
theorem bstring_spec {B b : Nat} {bs : List UInt8} {w : World} (h : BufA B b w bs) (hl : bs.length ≤ 140737488355328) :
    Calls Tryd.prog 37 #[.pointer (some ⟨b, 0, none⟩)] w (fun en w' => ∃ u, en = .returned u ∧ u = .string (str bs) ∧ Mv (bufZ B b) w w') := by
  obtain ⟨A, v, hb, hA, hO, hnl⟩ := h
  obtain ⟨Av, cv, rfl⟩ := owns_slice hO
  have hcv : Av = none ∨ cv ≠ 0 := by
    rcases hO.2 with ⟨q, _⟩ | ⟨g, cap, cur, q, _, _, h3, _⟩
    · simp only [Value.slice.injEq] at q; exact Or.inl q.1
    · cases q
      refine Or.inr fun q0 => ?_
      have hb0 : bs = [] := List.eq_nil_of_length_eq_zero (by omega)
      exact absurd (hnl hb0) (by simp)
  refine calls' (n := 14) (rs := #[.tmp 2]) (l := [.pointer (some ⟨b, 0, none⟩)]) Tryd.func37 rfl rfl rfl rfl rfl ?_
  have hX := Ext.refl w
  refine W_seq ?_
  refine W_region ?_
  refine op rfl (r_assignV (v := .string _) rfl) ?_
  refine WL_nil ?_
  refine W_seq ?_
  refine W_drawA Tryd.wd rfl ?_
  intro wd1 hD
  have hS : anyW wd1 := trivial
  replace hb := Blk.ext hb hD
  replace hX := hX.trans hD
  refine A_take (i := 0) rfl (by kernel_rfl) (by kernel_rfl) (by kernel_rfl) rfl hS (fun _ hw => r_moveV (v := .pointer _) rfl) ?_
  refine A_take (i := 1) rfl (by kernel_rfl) (by kernel_rfl) (by kernel_rfl) rfl hS (fun _ hw => r_nilCheck rfl) ?_
  refine A_take (i := 2) rfl (by kernel_rfl) (by kernel_rfl) (by kernel_rfl) rfl hS (fun _ hw => r_fieldAddr rfl Tryd.fld66_1 rfl) ?_
  refine A_take (i := 5) rfl (by kernel_rfl) (by kernel_rfl) (by kernel_rfl) rfl hS (fun _ hw => r_moveV (v := .pointer _) rfl) ?_
  refine A_take (i := 6) rfl (by kernel_rfl) (by kernel_rfl) (by kernel_rfl) rfl hS (fun _ hw => r_nilCheck rfl) ?_
  refine A_take (i := 7) rfl (by kernel_rfl) (by kernel_rfl) (by kernel_rfl) rfl hS (fun _ hw => r_fieldAddr rfl Tryd.fld66_1 rfl) ?_
  refine A_ready2 (i := 3) (j := 8) (by kernel_rfl) ?_ ?_
  · refine O_val rfl rfl (r_load (v := .slice Av bs.length cv) rfl Tryd.underlying45 rfl (Blk.cell hb rfl)) (hS) ?_
    refine A_ready2 (i := 4) (j := 8) (by kernel_rfl) ?_ ?_
    · refine O_val rfl rfl (r_sliceData rfl hcv) (hS) ?_
      refine A_ready1 (i := 8) (by kernel_rfl) ?_
      refine O_val rfl rfl (r_load (v := .slice Av bs.length cv) rfl Tryd.underlying45 rfl (Blk.cell hb rfl)) (hS) ?_
      refine A_take (i := 9) rfl (by kernel_rfl) (by kernel_rfl) (by kernel_rfl) rfl hS (fun _ hw => r_len_slice rfl Tryd.underlying45) ?_
      refine A_ready1 (i := 10) (by kernel_rfl) ?_
      obtain ⟨w5, hr5, M5⟩ := run_string (pt := 88) (it := 3) (t := 9) (owns_ext hO hX) Tryd.underlying88 cells_b (by omega)
      refine O_val rfl rfl (r_unsafeStr rfl rfl hr5) hS ?_
      refine A_take (i := 11) rfl (by kernel_rfl) (by kernel_rfl) (by kernel_rfl) rfl hS (fun _ hw => r_assignV (v := .string _) rfl) ?_
      refine A_done (by kernel_rfl) ?_
      refine W_ret (finX_ret ?_)
      refine fin1 ?_
      exact ⟨_, rfl, rfl, (Mv.of_ext hX).trans (M5.mono (fun k _ q => Or.inr q))⟩
    · refine O_val rfl rfl (r_load (v := .slice Av bs.length cv) rfl Tryd.underlying45 rfl (Blk.cell hb rfl)) (hS) ?_
      refine A_take (i := 9) rfl (by kernel_rfl) (by kernel_rfl) (by kernel_rfl) rfl hS (fun _ hw => r_len_slice rfl Tryd.underlying45) ?_
      refine A_ready1 (i := 4) (by kernel_rfl) ?_
      refine O_val rfl rfl (r_sliceData rfl hcv) (hS) ?_
      refine A_ready1 (i := 10) (by kernel_rfl) ?_
      obtain ⟨w5, hr5, M5⟩ := run_string (pt := 88) (it := 3) (t := 9) (owns_ext hO hX) Tryd.underlying88 cells_b (by omega)
      refine O_val rfl rfl (r_unsafeStr rfl rfl hr5) hS ?_
      refine A_take (i := 11) rfl (by kernel_rfl) (by kernel_rfl) (by kernel_rfl) rfl hS (fun _ hw => r_assignV (v := .string _) rfl) ?_
      refine A_done (by kernel_rfl) ?_
      refine W_ret (finX_ret ?_)
      refine fin1 ?_
      exact ⟨_, rfl, rfl, (Mv.of_ext hX).trans (M5.mono (fun k _ q => Or.inr q))⟩
  · refine O_val rfl rfl (r_load (v := .slice Av bs.length cv) rfl Tryd.underlying45 rfl (Blk.cell hb rfl)) (hS) ?_
    refine A_take (i := 9) rfl (by kernel_rfl) (by kernel_rfl) (by kernel_rfl) rfl hS (fun _ hw => r_len_slice rfl Tryd.underlying45) ?_
    refine A_ready1 (i := 3) (by kernel_rfl) ?_
    refine O_val rfl rfl (r_load (v := .slice Av bs.length cv) rfl Tryd.underlying45 rfl (Blk.cell hb rfl)) (hS) ?_
    refine A_ready1 (i := 4) (by kernel_rfl) ?_
    refine O_val rfl rfl (r_sliceData rfl hcv) (hS) ?_
    refine A_ready1 (i := 10) (by kernel_rfl) ?_
    obtain ⟨w5, hr5, M5⟩ := run_string (pt := 88) (it := 3) (t := 9) (owns_ext hO hX) Tryd.underlying88 cells_b (by omega)
    refine O_val rfl rfl (r_unsafeStr rfl rfl hr5) hS ?_
    refine A_take (i := 11) rfl (by kernel_rfl) (by kernel_rfl) (by kernel_rfl) rfl hS (fun _ hw => r_assignV (v := .string _) rfl) ?_
    refine A_done (by kernel_rfl) ?_
    refine W_ret (finX_ret ?_)
    refine fin1 ?_
    exact ⟨_, rfl, rfl, (Mv.of_ext hX).trans (M5.mono (fun k _ q => Or.inr q))⟩
end Go.Proofs.YtafcaigjijajnaaDoor
