/-
  The walks of the reference: a line's words, as a rule; rules of a text.
-/
import Derived.Test.YtafcaigjijajnaaDoorFacts
import Derived.Test.YtafcaigjijajnaaDoorRuleRp
namespace Go.Proofs.YtafcaigjijajnaaDoor
open Go Go.Eng Go.RowKit Go.Proofs
set_option linter.unusedVariables false
set_option linter.unusedSimpArgs false
set_option maxHeartbeats 1000000
set_option maxRecDepth 20000

theorem word_of_kind {a : List UInt8} (h : kindK a ≠ 0) {k : Int} (hk : 1 ≤ k ∧ k ≤ 5) (hw : wordK k = a) : kindK a = k := by rw [← hw]; exact kind_word hk
theorem refOne_spec {A : Option Addr} {c : Nat} {l : List (List UInt8)} {w : World} {G : Nat → Prop} (hrow : strT'.Row w G A l) (h0 : 0 < l.length) (hl : l.length ≤ 1099511627776) (hw : ∀ s ∈ l, s.length ≤ 20000) :
    Calls Tryd.prog 31 #[.slice A l.length c] w (fun en w' => ∃ v, en = .returned v ∧ OneV l v ∧ Ext w w') := by
  obtain ⟨g, off, rfl, hcell⟩ := row_str hrow h0
  refine calls' (n := 72) (rs := #[.cell 2 35, .tmp 3]) (l := [.slice (some ⟨g, off, none⟩) l.length c]) Tryd.func31 rfl rfl rfl rfl rfl ?_
  have hX := Ext.refl w
  refine W_seq ?_
  refine W_region ?_
  refine op_alloc rfl Tryd.zero35 ?_
  intro w0_0 b0_0 E0_0 B0_0 L0_0
  have hG0_0 : w.heap.size ≤ b0_0 := by have := hX.size; omega
  replace hX := hX.trans E0_0
  refine op rfl (r_assignV (v := .bool _) rfl) ?_
  refine WL_nil ?_
  refine W_seq ?_
  refine W_seq ?_
  refine W_region ?_
  refine op rfl (r_assignV (v := .int _ _) rfl) ?_
  refine WL_nil ?_
  refine W_block ?_
  refine W_loop (3 :: 4 :: 5 :: 6 :: 7 :: 8 :: 9 :: 10 :: 11 :: 12 :: 13 :: 14 :: 15 :: 16 :: 17 :: 18 :: 19 :: 20 :: 21 :: 22 :: 23 :: 24 :: 25 :: 26 :: 27 :: 28 :: 29 :: 30 :: 31 :: 32 :: 33 :: 34 :: 35 :: 36 :: 37 :: 38 :: 39 :: 40 :: 41 :: 42 :: 43 :: 44 :: 45 :: 46 :: 47 :: 48 :: 49 :: 50 :: 51 :: 52 :: 53 :: 54 :: 55 :: 56 :: 57 :: 58 :: 59 :: 60 :: 61 :: 62 :: 63 :: 64 :: 65 :: 66 :: 67 :: 68 :: 69 :: 70 :: []) (fun q e' w' => ∃ k : Nat, q = 6 - k ∧ 1 ≤ k ∧ k ≤ 6 ∧ e' 4 = .int .i64 k ∧ (∀ j : Nat, 1 ≤ j → j < k → wordK j ≠ l[0] ∨ l.length ≠ 2 + textsK j) ∧ Blk w' b0_0 (Ru.vals ⟨0, [], [], []⟩).toArray 35 ∧ Ext w w') (5) ?_ ?_
  · exact ⟨1, by omega, by omega, by omega, rfl, fun j h1 h2 => by omega, B0_0, hX⟩
  intro k g w' hI
  obtain ⟨k, hq, hk1, hk6, h4, hno, B0', hX'⟩ := hI
  clear hX B0_0
  have hX := hX'
  have B0_0 := B0'
  refine W_set (i := 4) h4 ?_
  refine W_seq ?_
  refine W_seq ?_
  refine W_region ?_
  refine op rfl (r_moveV (v := .int _ _) rfl) ?_
  refine op rfl (r_leq rfl rfl) ?_
  refine WL_nil ?_
  refine W_ifp rfl (fun ht12 => ?_) (fun ht12 => ?_)
  · have hk5 : (1 : Int) ≤ k ∧ (k : Int) ≤ 5 := by omega
    refine W_skip ?_
    refine W_seq ?_
    refine W_block ?_
    refine W_seq ?_
    refine W_seq ?_
    refine W_drawF (W0 := w) (fun b : Nat => b = b0_0 ∨ False) Tryd.wd rfl ?_
    intro wd4 hD
    replace B0_0 := Blk.ext B0_0 hD
    replace hX := hX.trans hD
    have DB0_0 := B0_0
    have hS : Ext w wd4 ∧ Same (fun b : Nat => b = b0_0 ∨ False) wd4 wd4 := ⟨hX, fun _ _ => rfl⟩
    refine A_take (i := 1) rfl (by kernel_rfl) (by kernel_rfl) (by kernel_rfl) rfl hS (fun _ hw => r_moveV (v := .int .i64 k) rfl) ?_
    refine A_take (i := 4) rfl (by kernel_rfl) (by kernel_rfl) (by kernel_rfl) rfl hS (fun _ hw => r_moveV (v := .slice _ _ _) rfl) ?_
    refine A_take (i := 5) rfl (by kernel_rfl) (by kernel_rfl) (by kernel_rfl) rfl hS (fun _ hw => r_indexAddr1 rfl rfl rfl Tryd.underlying49 Tryd.sz9 (by omega) (by omega)) ?_
    refine A_take (i := 6) rfl (by kernel_rfl) (by kernel_rfl) (by kernel_rfl) rfl hS (fun _ hw => r_load (v := sv l[0]) rfl Tryd.underlying9 rfl (ext_cell hw.1 (hcell 0 h0))) ?_
    refine A_ready1 (i := 0) (by kernel_rfl) ?_
    refine O_call rfl rfl (r_call Tryd.func42 Tryd.nm42 rfl) (refWords_spec _) ?_
    rintro v4 w4 ⟨bw, rfl, Bw, hbw, hE⟩
    replace B0_0 := Blk.ext B0_0 hE
    replace hX := hX.trans hE
    replace hS : Ext w w4 ∧ Same (fun b : Nat => b = b0_0 ∨ False) wd4 w4 := ⟨hX, fun b hb => Or.elim hb (fun q => by subst q; exact Blk.eq B0_0 DB0_0) (fun hb => hb.elim)⟩
    refine ⟨hS, ?_⟩
    refine A_take (i := 2) rfl (by kernel_rfl) (by kernel_rfl) (by kernel_rfl) rfl hS (fun _ hw => r_indexAddr1 (i := (k : Int)) rfl rfl rfl Tryd.underlying49 Tryd.sz9 (by omega) (by omega)) ?_
    refine A_ready1 (i := 3) (by kernel_rfl) ?_
    refine O_val rfl rfl (r_load (v := sv (wordK k)) rfl Tryd.underlying9 rfl (words_cell Bw hk5)) (hS) ?_
    refine A_take (i := 7) rfl (by kernel_rfl) (by kernel_rfl) (by kernel_rfl) rfl hS (fun _ hw => rt_neq rfl rfl) ?_
    refine A_split (i := 8) rfl (by kernel_rfl) (by kernel_rfl) (by kernel_rfl) rfl hS (fun _ _ => r_moveV (v := .bool (decide _)) rfl) (fun hg23 => ?_) (fun hg23 => ?_)
    · refine A_skip (i := 9) rfl (by kernel_rfl) (by kernel_rfl) (by kernel_rfl) rfl hS rfl rfl rfl rfl ?_
      refine A_skip (i := 10) rfl (by kernel_rfl) (by kernel_rfl) (by kernel_rfl) rfl hS rfl rfl rfl rfl ?_
      refine A_skip (i := 11) rfl (by kernel_rfl) (by kernel_rfl) (by kernel_rfl) rfl hS rfl rfl rfl rfl ?_
      refine A_skip (i := 12) rfl (by kernel_rfl) (by kernel_rfl) (by kernel_rfl) rfl hS rfl rfl rfl rfl ?_
      refine A_skip (i := 13) rfl (by kernel_rfl) (by kernel_rfl) (by kernel_rfl) rfl hS rfl rfl rfl rfl ?_
      refine A_skip (i := 14) rfl (by kernel_rfl) (by kernel_rfl) (by kernel_rfl) rfl hS rfl rfl rfl rfl ?_
      refine A_take (i := 15) rfl (by kernel_rfl) (by kernel_rfl) (by kernel_rfl) rfl hS (fun _ hw => r_pickTV (v := .bool _) rfl rfl) ?_
      refine A_done (by kernel_rfl) ?_
      refine W_then rfl ?_
      refine W_exit (blk_hit ?_)
      refine W_region ?_
      refine op rfl (r_moveV (v := .int _ _) rfl) ?_
      refine op rfl (r_add' (r := ((k + 1 : Nat) : Int)) rfl rfl (by rw [wrap_i64 (by omega) (by omega)]; omega)) ?_
      refine op rfl (r_assignV (v := .int _ _) rfl) ?_
      refine WL_nil ?_
      refine ⟨?_, by repeat (first | with_reducible exact Out.refl _ _ | with_reducible exact Out.mix | refine Out.put rfl ?_ | refine Out.mixin rfl ?_ | exact Out.refl _ _ | exact Out.mix)⟩
      refine ⟨6 - (k + 1), by omega, k + 1, rfl, by omega, by omega, rfl, fun j h1 h2 => ?_, B0_0, hX⟩
      by_cases hjk : j = k
      · subst hjk
        first
          | exact Or.inl (by assumption)
          | exact Or.inr (by omega)
      · exact hno j h1 (by omega)
    · refine A_takeG (i := 9) rfl (by kernel_rfl) (by kernel_rfl) (by kernel_rfl) rfl hS rfl rfl rfl rfl (fun _ hw => r_moveV (v := .slice _ _ _) rfl) ?_
      refine A_takeG (i := 10) rfl (by kernel_rfl) (by kernel_rfl) (by kernel_rfl) rfl hS rfl rfl rfl rfl (fun _ hw => r_len_slice rfl Tryd.underlying49) ?_
      refine A_takeG (i := 11) rfl (by kernel_rfl) (by kernel_rfl) (by kernel_rfl) rfl hS rfl rfl rfl rfl (fun _ hw => r_moveV (v := .int _ _) rfl) ?_
      refine A_ready1 (i := 12) (by kernel_rfl) ?_
      refine O_callG rfl rfl rfl rfl rfl rfl (r_call Tryd.func41 Tryd.nm41 rfl) (refTexts_spec k _ (by omega)) ?_
      rintro v4b w4b ⟨rfl, hE⟩
      replace B0_0 := Blk.ext B0_0 hE
      replace hX := hX.trans hE
      replace hS : Ext w w4b ∧ Same (fun b : Nat => b = b0_0 ∨ False) wd4 w4b := ⟨hX, fun b hb => Or.elim hb (fun q => by subst q; exact Blk.eq B0_0 DB0_0) (fun hb => hb.elim)⟩
      refine ⟨hS, ?_⟩
      refine A_takeG (i := 13) rfl (by kernel_rfl) (by kernel_rfl) (by kernel_rfl) rfl hS rfl rfl rfl rfl (fun _ hw => r_add' (m := 2) (n := (textsK k : Nat)) (r := ((2 + textsK k : Nat) : Int)) rfl rfl (by have := texts_le k; rw [wrap_i64 (by omega) (by omega)]; omega)) ?_
      refine A_takeG (i := 14) rfl (by kernel_rfl) (by kernel_rfl) (by kernel_rfl) rfl hS rfl rfl rfl rfl (fun _ hw => r_neq rfl rfl) ?_
      refine A_take (i := 15) rfl (by kernel_rfl) (by kernel_rfl) (by kernel_rfl) rfl hS (fun _ hw => r_pickFV (v := .bool _) rfl rfl) ?_
      refine A_done (by kernel_rfl) ?_
      refine W_ifp rfl (fun ht30 => ?_) (fun ht30 => ?_)
      · refine W_exit (blk_hit ?_)
        refine W_region ?_
        refine op rfl (r_moveV (v := .int _ _) rfl) ?_
        refine op rfl (r_add' (r := ((k + 1 : Nat) : Int)) rfl rfl (by rw [wrap_i64 (by omega) (by omega)]; omega)) ?_
        refine op rfl (r_assignV (v := .int _ _) rfl) ?_
        refine WL_nil ?_
        refine ⟨?_, by repeat (first | with_reducible exact Out.refl _ _ | with_reducible exact Out.mix | refine Out.put rfl ?_ | refine Out.mixin rfl ?_ | exact Out.refl _ _ | exact Out.mix)⟩
        refine ⟨6 - (k + 1), by omega, k + 1, rfl, by omega, by omega, rfl, fun j h1 h2 => ?_, B0_0, hX⟩
        by_cases hjk : j = k
        · subst hjk
          first
            | exact Or.inl (by assumption)
            | exact Or.inr (by omega)
        · exact hno j h1 (by omega)
      · have hwk : wordK k = l[0] := Classical.not_not.1 hg23
        have hlen : l.length = 2 + textsK k := by omega
        have hkk : kindK l[0] = k := by rw [← hwk]; exact kind_word hk5
        have htl := texts_le k
        have hl1 : l[1].length ≤ 20000 := hw _ (List.getElem_mem (by omega))
        refine W_skip ?_
        refine W_seq ?_
        refine W_region ?_
        refine op rfl (r_moveV (v := .int .i64 k) rfl) ?_
        refine op rfl (r_moveV (v := .slice _ _ _) rfl) ?_
        refine op rfl (r_indexAddr1 rfl rfl rfl Tryd.underlying49 Tryd.sz9 (by omega) (by omega)) ?_
        refine op rfl (r_load (v := sv l[1]) rfl Tryd.underlying9 rfl (ext_cell hX (hcell 1 (by omega)))) ?_
        refine op rfl (r_build (cs := [.int .i64 k, sv l[1], sv [], sv []]) Tryd.lay35 (List.forall_mem_cons.2 ⟨rfl, List.forall_mem_cons.2 ⟨rfl, fun _ h => absurd h List.not_mem_nil⟩⟩) rfl rfl) ?_
        refine op_alloc rfl Tryd.zero35 ?_
        intro w5_5 b5_5 E5_5 B5_5 L5_5
        have hG5_5 : w.heap.size ≤ b5_5 := by have := hX.size; omega
        have hNb0_0_5_5 : b0_0 ≠ b5_5 := by have := Blk.lt B0_0; omega
        replace B0_0 := Blk.ext B0_0 E5_5
        replace hX := hX.trans E5_5
        refine op_storeRow rfl rfl Tryd.sz35 B5_5 rfl rfl ?_
        intro w5_6 C5_6 BB5_6
        replace B0_0 := Chg.blk C5_6 B0_0 hNb0_0_5_5
        replace hX := hX.chg C5_6 hG5_5
        replace B5_5 := BB5_6
        refine WL_nil ?_
        refine W_seq ?_
        refine W_region ?_
        refine op rfl (r_assignV (v := .bool _) rfl) ?_
        refine WL_nil ?_
        refine W_cut [6, 7, 8, 36, 37, 38, 39, 40, 41, 42, 43, 44, 45, 46, 47, 48] (fun e' w' => ∃ (o : List UInt8) (b1 : Bool), e' 6 = .bool b1 ∧ Blk w' b5_5 (Ru.vals ⟨k, l[1], o, []⟩).toArray 35 ∧ Blk w' b0_0 (Ru.vals ⟨0, [], [], []⟩).toArray 35 ∧ (∀ h : 2 < l.length, (b1 = true → unqP l[2] = some o) ∧ (b1 = false → unqP l[2] = none)) ∧ (l.length = 2 → b1 = true ∧ o = []) ∧ o.length ≤ 20000 ∧ Ext w w') ?_ ?_
        · refine W_seq ?_
          refine W_region ?_
          refine op rfl (r_moveV (v := .int .i64 k) rfl) ?_
          refine opCv rfl (r_call Tryd.func41 Tryd.nm41 rfl) (refTexts_spec k _ (by omega)) ?_
          rintro v7 w7 ⟨rfl, hE⟩
          replace B0_0 := Blk.ext B0_0 hE
          replace B5_5 := Blk.ext B5_5 hE
          replace hX := hX.trans hE
          refine op rfl (r_gtr rfl rfl) ?_
          refine WL_nil ?_
          refine W_ifp rfl (fun ht38 => ?_) (fun ht38 => ?_)
          · refine W_seq ?_
            refine W_region ?_
            refine op rfl (r_moveV (v := .slice _ _ _) rfl) ?_
            refine op rfl (r_indexAddr1 rfl rfl rfl Tryd.underlying49 Tryd.sz9 (by omega) (by omega)) ?_
            refine op rfl (r_load (v := sv l[2]) rfl Tryd.underlying9 rfl (ext_cell hX (hcell 2 (by omega)))) ?_
            refine opCv rfl (r_call Tryd.func15 Tryd.nm15 rfl) (refUnquote_spec l[2] _ (by have := hw _ (List.getElem_mem (show 2 < l.length by omega)); omega)) ?_
            rintro v8 w8 ⟨rfl, hE⟩
            replace B0_0 := Blk.ext B0_0 hE
            replace B5_5 := Blk.ext B5_5 hE
            replace hX := hX.trans hE
            refine op rfl (r_moveV (v := .tuple #[sv ((unqF l[2]).getD []), .bool (decide ((unqF l[2]).isSome = true))]) rfl) ?_
            refine op rfl (r_extract (vs := [sv ((unqF l[2]).getD []), .bool (decide ((unqF l[2]).isSome = true))]) rfl rfl) ?_
            refine op rfl (r_extract (vs := [sv ((unqF l[2]).getD []), .bool (decide ((unqF l[2]).isSome = true))]) rfl rfl) ?_
            refine op rfl (r_assignV (v := sv ((unqF l[2]).getD [])) rfl) ?_
            refine op rfl (r_assignV (v := .bool (decide ((unqF l[2]).isSome = true))) rfl) ?_
            refine WL_nil ?_
            refine W_seq ?_
            refine W_region ?_
            refine op rfl (r_moveV (v := sv ((unqF l[2]).getD [])) rfl) ?_
            refine op rfl (r_fieldAddr rfl Tryd.fld35_2 rfl) ?_
            refine op_store (v := sv ((unqF l[2]).getD [])) rfl rfl rfl Tryd.sz9 B5_5 (Nat.le_of_ble_eq_true rfl) ?_
            intro w9_2 C9_2 BB9_2
            replace B0_0 := Chg.blk C9_2 B0_0 hNb0_0_5_5
            replace hX := hX.chg C9_2 hG5_5
            replace B5_5 := BB9_2
            replace B5_5 : Blk _ b5_5 (Ru.vals ⟨k, l[1], (unqF l[2]).getD [], []⟩).toArray 35 := B5_5
            refine WL_nil ?_
            refine W_region ?_
            refine op rfl (r_moveV (v := .bool (decide ((unqF l[2]).isSome = true))) rfl) ?_
            refine op rfl (r_assignV (v := .bool (decide ((unqF l[2]).isSome = true))) rfl) ?_
            refine WL_nil ?_
            refine ⟨?_, by repeat (first | with_reducible exact Out.refl _ _ | with_reducible exact Out.mix | refine Out.put rfl ?_ | refine Out.mixin rfl ?_ | exact Out.refl _ _ | exact Out.mix)⟩
            first
              | (have h2 : 2 < l.length := by omega
                 have hu2 := unq_same l[2]
                 have hl2 : l[2].length ≤ 20000 := hw _ (List.getElem_mem h2)
                 refine ⟨(unqF l[2]).getD [], decide ((unqF l[2]).isSome = true), rfl, B5_5, B0_0, fun _ => ?_, fun q => by omega, ?_, hX⟩
                 · rw [hu2]
                   cases hx : unqF l[2] with
                   | none => exact ⟨fun q => by simp at q, fun _ => rfl⟩
                   | some u => exact ⟨fun _ => rfl, fun q => by simp at q⟩
                 · cases hx : unqF l[2] with
                   | none => simp
                   | some u =>
                     have := unq_len (hu2.trans hx)
                     show u.length ≤ _
                     omega)
              | exact ⟨[], true, rfl, B5_5, B0_0, fun h => by omega, fun _ => ⟨rfl, rfl⟩, by simp, hX⟩
          · refine W_skip ?_
            refine ⟨?_, by repeat (first | with_reducible exact Out.refl _ _ | with_reducible exact Out.mix | refine Out.put rfl ?_ | refine Out.mixin rfl ?_ | exact Out.refl _ _ | exact Out.mix)⟩
            first
              | (have h2 : 2 < l.length := by omega
                 have hu2 := unq_same l[2]
                 have hl2 : l[2].length ≤ 20000 := hw _ (List.getElem_mem h2)
                 refine ⟨(unqF l[2]).getD [], decide ((unqF l[2]).isSome = true), rfl, B5_5, B0_0, fun _ => ?_, fun q => by omega, ?_, hX⟩
                 · rw [hu2]
                   cases hx : unqF l[2] with
                   | none => exact ⟨fun q => by simp at q, fun _ => rfl⟩
                   | some u => exact ⟨fun _ => rfl, fun q => by simp at q⟩
                 · cases hx : unqF l[2] with
                   | none => simp
                   | some u =>
                     have := unq_len (hu2.trans hx)
                     show u.length ≤ _
                     omega)
              | exact ⟨[], true, rfl, B5_5, B0_0, fun h => by omega, fun _ => ⟨rfl, rfl⟩, by simp, hX⟩
        rintro gift38 w' hJ
        obtain ⟨o, b1, h6, B5', B0', ho, ho0, hol, hXo⟩ := hJ
        clear hX B5_5 B0_0
        have hX := hXo
        have B5_5 := B5'
        have B0_0 := B0'
        refine W_set (i := 6) h6 ?_
        refine W_cut [6, 9, 10, 49, 50, 51, 52, 53, 54, 55, 56, 57, 58, 59, 60, 61, 62, 63, 64] (fun e' w' => ∃ (n : List UInt8) (b2 : Bool), e' 6 = .bool b2 ∧ Blk w' b5_5 (Ru.vals ⟨k, l[1], o, n⟩).toArray 35 ∧ Blk w' b0_0 (Ru.vals ⟨0, [], [], []⟩).toArray 35 ∧ (b2 = true → oneR l = if ruR ⟨k, l[1], o, n⟩ then some ⟨k, l[1], o, n⟩ else none) ∧ (b2 = false → oneR l = none) ∧ n.length ≤ 20000 ∧ Ext w w') ?_ ?_
        · refine W_seq ?_
          refine W_region ?_
          refine op rfl (r_moveV (v := .int .i64 k) rfl) ?_
          refine opCv rfl (r_call Tryd.func41 Tryd.nm41 rfl) (refTexts_spec k _ (by omega)) ?_
          rintro v11 w11 ⟨rfl, hE⟩
          replace B0_0 := Blk.ext B0_0 hE
          replace B5_5 := Blk.ext B5_5 hE
          replace hX := hX.trans hE
          refine op rfl (r_gtr rfl rfl) ?_
          refine WL_nil ?_
          refine W_ifp rfl (fun ht51 => ?_) (fun ht51 => ?_)
          · refine W_seq ?_
            refine W_region ?_
            refine op rfl (r_moveV (v := .slice _ _ _) rfl) ?_
            refine op rfl (r_indexAddr1 rfl rfl rfl Tryd.underlying49 Tryd.sz9 (by omega) (by omega)) ?_
            refine op rfl (r_load (v := sv l[3]) rfl Tryd.underlying9 rfl (ext_cell hX (hcell 3 (by omega)))) ?_
            refine opCv rfl (r_call Tryd.func15 Tryd.nm15 rfl) (refUnquote_spec l[3] _ (by have := hw _ (List.getElem_mem (show 3 < l.length by omega)); omega)) ?_
            rintro v12 w12 ⟨rfl, hE⟩
            replace B0_0 := Blk.ext B0_0 hE
            replace B5_5 := Blk.ext B5_5 hE
            replace hX := hX.trans hE
            refine op rfl (r_moveV (v := .tuple #[sv ((unqF l[3]).getD []), .bool (decide ((unqF l[3]).isSome = true))]) rfl) ?_
            refine op rfl (r_extract (vs := [sv ((unqF l[3]).getD []), .bool (decide ((unqF l[3]).isSome = true))]) rfl rfl) ?_
            refine op rfl (r_extract (vs := [sv ((unqF l[3]).getD []), .bool (decide ((unqF l[3]).isSome = true))]) rfl rfl) ?_
            refine op rfl (r_assignV (v := sv ((unqF l[3]).getD [])) rfl) ?_
            refine op rfl (r_assignV (v := .bool (decide ((unqF l[3]).isSome = true))) rfl) ?_
            refine WL_nil ?_
            refine W_seq ?_
            refine W_region ?_
            refine op rfl (r_moveV (v := sv ((unqF l[3]).getD [])) rfl) ?_
            refine op rfl (r_fieldAddr rfl Tryd.fld35_3 rfl) ?_
            refine op_store (v := sv ((unqF l[3]).getD [])) rfl rfl rfl Tryd.sz9 B5_5 (Nat.le_of_ble_eq_true rfl) ?_
            intro w13_2 C13_2 BB13_2
            replace B0_0 := Chg.blk C13_2 B0_0 hNb0_0_5_5
            replace hX := hX.chg C13_2 hG5_5
            replace B5_5 := BB13_2
            replace B5_5 : Blk _ b5_5 (Ru.vals ⟨k, l[1], o, (unqF l[3]).getD []⟩).toArray 35 := B5_5
            refine WL_nil ?_
            refine W_region ?_
            refine op rfl (r_moveV (v := .bool b1) rfl) ?_
            refine op_splitB rfl (r_moveV (v := .bool _) rfl) (fun hg62 => ?_) (fun hg62 => ?_)
            · refine opG_yes rfl rfl rfl rfl rfl (r_moveV (v := .bool (decide ((unqF l[3]).isSome = true))) rfl) ?_
              refine op rfl (r_pickTV (v := .bool _) rfl rfl) ?_
              refine op rfl (r_assignV (v := .bool _) rfl) ?_
              refine WL_nil ?_
              refine ⟨?_, by repeat (first | with_reducible exact Out.refl _ _ | with_reducible exact Out.mix | refine Out.put rfl ?_ | refine Out.mixin rfl ?_ | exact Out.refl _ _ | exact Out.mix)⟩
              have hval : ∀ n, (l.length = 2 ∨ b1 = true) → (∀ h : 3 < l.length, unqP l[3] = some n) → (l.length ≤ 3 → n = []) → oneR l = if ruR ⟨k, l[1], o, n⟩ then some ⟨k, l[1], o, n⟩ else none := fun n hb hn hn0 => by
                have := one_valL (l := l) (o := o) (n := n) (by omega) (by rw [hkk]; omega) (by rw [hkk]; exact hlen) (fun h => (ho h).1 (hb.resolve_left (by omega))) (fun h => (ho0 h).2) hn hn0
                rw [hkk] at this
                exact this
              have hbad2 : b1 = false → oneR l = none := fun hb => by
                have h2 : 2 < l.length := by
                  rcases Nat.lt_or_ge 2 l.length with h | h
                  · exact h
                  · have := (ho0 (by omega)).1; rw [hb] at this; cases this
                exact one_badL (i := 0) h2 (by omega) ((ho h2).2 hb)
              first
                | (have h3 : 3 < l.length := by omega
                   have hb1 : b1 = true := by assumption
                   have hu3 := unq_same l[3]
                   have hl3 : l[3].length ≤ 20000 := hw _ (List.getElem_mem h3)
                   refine ⟨(unqF l[3]).getD [], decide ((unqF l[3]).isSome = true), rfl, B5_5, B0_0, fun q => ?_, fun q => ?_, ?_, hX⟩
                   · refine hval _ (Or.inr hb1) (fun _ => ?_) (fun h => by omega)
                     rw [hu3]
                     cases hx : unqF l[3] with
                     | none => rw [hx] at q; simp at q
                     | some u => rfl
                   · refine one_badL (i := 1) h3 (by omega) ?_
                     show unqP l[3] = none
                     rw [hu3]
                     cases hx : unqF l[3] with
                     | none => rfl
                     | some u => rw [hx] at q; simp at q
                   · cases hx : unqF l[3] with
                     | none => simp
                     | some u =>
                       have := unq_len (hu3.trans hx)
                       show u.length ≤ _
                       omega)
                | (have h3 : 3 < l.length := by omega
                   have hb1 : b1 = false := by assumption
                   have hu3 := unq_same l[3]
                   have hl3 : l[3].length ≤ 20000 := hw _ (List.getElem_mem h3)
                   refine ⟨(unqF l[3]).getD [], false, rfl, B5_5, B0_0, fun q => (by cases q), fun _ => hbad2 hb1, ?_, hX⟩
                   cases hx : unqF l[3] with
                   | none => simp
                   | some u =>
                     have := unq_len (hu3.trans hx)
                     show u.length ≤ _
                     omega)
                | exact ⟨[], b1, rfl, B5_5, B0_0, fun q => hval [] (Or.inr q) (fun h => by omega) (fun _ => rfl), hbad2, by simp, hX⟩
            · refine opG_no rfl rfl rfl rfl rfl ?_
              refine op rfl (r_pickFV (v := .bool _) rfl rfl) ?_
              refine op rfl (r_assignV (v := .bool _) rfl) ?_
              refine WL_nil ?_
              refine ⟨?_, by repeat (first | with_reducible exact Out.refl _ _ | with_reducible exact Out.mix | refine Out.put rfl ?_ | refine Out.mixin rfl ?_ | exact Out.refl _ _ | exact Out.mix)⟩
              have hval : ∀ n, (l.length = 2 ∨ b1 = true) → (∀ h : 3 < l.length, unqP l[3] = some n) → (l.length ≤ 3 → n = []) → oneR l = if ruR ⟨k, l[1], o, n⟩ then some ⟨k, l[1], o, n⟩ else none := fun n hb hn hn0 => by
                have := one_valL (l := l) (o := o) (n := n) (by omega) (by rw [hkk]; omega) (by rw [hkk]; exact hlen) (fun h => (ho h).1 (hb.resolve_left (by omega))) (fun h => (ho0 h).2) hn hn0
                rw [hkk] at this
                exact this
              have hbad2 : b1 = false → oneR l = none := fun hb => by
                have h2 : 2 < l.length := by
                  rcases Nat.lt_or_ge 2 l.length with h | h
                  · exact h
                  · have := (ho0 (by omega)).1; rw [hb] at this; cases this
                exact one_badL (i := 0) h2 (by omega) ((ho h2).2 hb)
              first
                | (have h3 : 3 < l.length := by omega
                   have hb1 : b1 = true := by assumption
                   have hu3 := unq_same l[3]
                   have hl3 : l[3].length ≤ 20000 := hw _ (List.getElem_mem h3)
                   refine ⟨(unqF l[3]).getD [], decide ((unqF l[3]).isSome = true), rfl, B5_5, B0_0, fun q => ?_, fun q => ?_, ?_, hX⟩
                   · refine hval _ (Or.inr hb1) (fun _ => ?_) (fun h => by omega)
                     rw [hu3]
                     cases hx : unqF l[3] with
                     | none => rw [hx] at q; simp at q
                     | some u => rfl
                   · refine one_badL (i := 1) h3 (by omega) ?_
                     show unqP l[3] = none
                     rw [hu3]
                     cases hx : unqF l[3] with
                     | none => rfl
                     | some u => rw [hx] at q; simp at q
                   · cases hx : unqF l[3] with
                     | none => simp
                     | some u =>
                       have := unq_len (hu3.trans hx)
                       show u.length ≤ _
                       omega)
                | (have h3 : 3 < l.length := by omega
                   have hb1 : b1 = false := by assumption
                   have hu3 := unq_same l[3]
                   have hl3 : l[3].length ≤ 20000 := hw _ (List.getElem_mem h3)
                   refine ⟨(unqF l[3]).getD [], false, rfl, B5_5, B0_0, fun q => (by cases q), fun _ => hbad2 hb1, ?_, hX⟩
                   cases hx : unqF l[3] with
                   | none => simp
                   | some u =>
                     have := unq_len (hu3.trans hx)
                     show u.length ≤ _
                     omega)
                | exact ⟨[], b1, rfl, B5_5, B0_0, fun q => hval [] (Or.inr q) (fun h => by omega) (fun _ => rfl), hbad2, by simp, hX⟩
          · refine W_skip ?_
            refine ⟨?_, by repeat (first | with_reducible exact Out.refl _ _ | with_reducible exact Out.mix | refine Out.put rfl ?_ | refine Out.mixin rfl ?_ | exact Out.refl _ _ | exact Out.mix)⟩
            have hval : ∀ n, (l.length = 2 ∨ b1 = true) → (∀ h : 3 < l.length, unqP l[3] = some n) → (l.length ≤ 3 → n = []) → oneR l = if ruR ⟨k, l[1], o, n⟩ then some ⟨k, l[1], o, n⟩ else none := fun n hb hn hn0 => by
              have := one_valL (l := l) (o := o) (n := n) (by omega) (by rw [hkk]; omega) (by rw [hkk]; exact hlen) (fun h => (ho h).1 (hb.resolve_left (by omega))) (fun h => (ho0 h).2) hn hn0
              rw [hkk] at this
              exact this
            have hbad2 : b1 = false → oneR l = none := fun hb => by
              have h2 : 2 < l.length := by
                rcases Nat.lt_or_ge 2 l.length with h | h
                · exact h
                · have := (ho0 (by omega)).1; rw [hb] at this; cases this
              exact one_badL (i := 0) h2 (by omega) ((ho h2).2 hb)
            first
              | (have h3 : 3 < l.length := by omega
                 have hb1 : b1 = true := by assumption
                 have hu3 := unq_same l[3]
                 have hl3 : l[3].length ≤ 20000 := hw _ (List.getElem_mem h3)
                 refine ⟨(unqF l[3]).getD [], decide ((unqF l[3]).isSome = true), rfl, B5_5, B0_0, fun q => ?_, fun q => ?_, ?_, hX⟩
                 · refine hval _ (Or.inr hb1) (fun _ => ?_) (fun h => by omega)
                   rw [hu3]
                   cases hx : unqF l[3] with
                   | none => rw [hx] at q; simp at q
                   | some u => rfl
                 · refine one_badL (i := 1) h3 (by omega) ?_
                   show unqP l[3] = none
                   rw [hu3]
                   cases hx : unqF l[3] with
                   | none => rfl
                   | some u => rw [hx] at q; simp at q
                 · cases hx : unqF l[3] with
                   | none => simp
                   | some u =>
                     have := unq_len (hu3.trans hx)
                     show u.length ≤ _
                     omega)
              | (have h3 : 3 < l.length := by omega
                 have hb1 : b1 = false := by assumption
                 have hu3 := unq_same l[3]
                 have hl3 : l[3].length ≤ 20000 := hw _ (List.getElem_mem h3)
                 refine ⟨(unqF l[3]).getD [], false, rfl, B5_5, B0_0, fun q => (by cases q), fun _ => hbad2 hb1, ?_, hX⟩
                 cases hx : unqF l[3] with
                 | none => simp
                 | some u =>
                   have := unq_len (hu3.trans hx)
                   show u.length ≤ _
                   omega)
              | exact ⟨[], b1, rfl, B5_5, B0_0, fun q => hval [] (Or.inr q) (fun h => by omega) (fun _ => rfl), hbad2, by simp, hX⟩
        rintro gift51 w' hJ
        obtain ⟨n, b2, h6b, B5', B0', hyes, hnot, hnl, hXn⟩ := hJ
        clear hX B5_5 B0_0
        have hX := hXn
        have B5_5 := B5'
        have B0_0 := B0'
        refine W_set (i := 6) h6b ?_
        refine W_seq ?_
        refine W_drawF (W0 := w) (fun b : Nat => b = b5_5 ∨ False) Tryd.wd rfl ?_
        intro wd15 hD
        replace B0_0 := Blk.ext B0_0 hD
        replace B5_5 := Blk.ext B5_5 hD
        replace hX := hX.trans hD
        have DB5_5 := B5_5
        have hS : Ext w wd15 ∧ Same (fun b : Nat => b = b5_5 ∨ False) wd15 wd15 := ⟨hX, fun _ _ => rfl⟩
        refine A_take (i := 0) rfl (by kernel_rfl) (by kernel_rfl) (by kernel_rfl) rfl hS (fun _ hw => r_loadRow rfl (Blk.at DB5_5 (hw.2 _ (Or.inl rfl))) Tryd.underlying35 rfl Tryd.sz35) ?_
        refine A_take (i := 1) rfl (by kernel_rfl) (by kernel_rfl) (by kernel_rfl) rfl hS (fun _ hw => r_moveV (v := .bool b2) rfl) ?_
        refine A_splitB (i := 2) rfl (by kernel_rfl) (by kernel_rfl) (by kernel_rfl) rfl hS (fun _ _ => r_moveV (v := .bool _) rfl) (fun hg67 => ?_) (fun hg67 => ?_)
        · refine A_takeG (i := 3) rfl (by kernel_rfl) (by kernel_rfl) (by kernel_rfl) rfl hS rfl rfl rfl rfl (fun _ hw => r_loadRow rfl (Blk.at DB5_5 (hw.2 _ (Or.inl rfl))) Tryd.underlying35 rfl Tryd.sz35) ?_
          refine A_ready1 (i := 4) (by kernel_rfl) ?_
          refine O_callG rfl rfl rfl rfl rfl rfl (r_call Tryd.func25 Tryd.nm25 rfl) (refRight_spec ⟨k, l[1], o, n⟩ _ (by show l[1].length ≤ _; omega) (by show o.length ≤ _; omega) (by show n.length ≤ _; omega)) ?_
          rintro v15 w15 ⟨rfl, hE⟩
          replace B0_0 := Blk.ext B0_0 hE
          replace B5_5 := Blk.ext B5_5 hE
          replace hX := hX.trans hE
          replace hS : Ext w w15 ∧ Same (fun b : Nat => b = b5_5 ∨ False) wd15 w15 := ⟨hX, fun b hb => Or.elim hb (fun q => by subst q; exact Blk.eq B5_5 DB5_5) (fun hb => hb.elim)⟩
          refine ⟨hS, ?_⟩
          refine A_take (i := 5) rfl (by kernel_rfl) (by kernel_rfl) (by kernel_rfl) rfl hS (fun _ hw => r_pickTV (v := .bool _) rfl rfl) ?_
          refine A_ready1 (i := 6) (by kernel_rfl) ?_
          refine O_storeRow rfl rfl rfl Tryd.sz35 B0_0 rfl rfl ?_
          intro w15_6 C15_6 BB15_6
          replace B5_5 := Chg.blk C15_6 B5_5 (fun q => hNb0_0_5_5 q.symm)
          replace hX := hX.chg C15_6 hG0_0
          replace B0_0 := BB15_6
          replace hS : Ext w w15_6 ∧ Same (fun b : Nat => b = b5_5 ∨ False) wd15 w15_6 := ⟨hX, fun b hb => Or.elim hb (fun q => by subst q; exact Blk.eq B5_5 DB5_5) (fun hb => hb.elim)⟩
          refine ⟨hS, ?_⟩
          refine A_take (i := 7) rfl (by kernel_rfl) (by kernel_rfl) (by kernel_rfl) rfl hS (fun _ hw => r_assignV (v := .bool _) rfl) ?_
          refine A_done (by kernel_rfl) ?_
          refine W_ret (blk_ret (blk_ret (finX_ret ?_)))
          refine fin_cell1 rfl B0_0 Tryd.underlying35 rfl Tryd.sz35 ?_
          first
            | (have hone := hyes (by assumption)
               refine ⟨_, rfl, ⟨⟨k, l[1], o, n⟩, ?_, fun x h => ?_⟩, hX⟩
               · rw [hone]
                 by_cases hr : ruR ⟨k, l[1], o, n⟩
                 · rw [if_pos hr]; simp [hr]; rfl
                 · rw [if_neg hr]; simp [hr]; rfl
               · rw [hone] at h
                 split at h
                 · exact Option.some.inj h
                 · cases h)
            | (have hno := hnot (by assumption)
               exact ⟨_, rfl, ⟨⟨k, l[1], o, n⟩, by rw [hno]; rfl, fun x h => by rw [hno] at h; cases h⟩, hX⟩)
            | (have hno : oneR l = none := by
                 by_cases hk0 : kindK l[0] = 0
                 · exact one_kind h0 hk0
                 · obtain ⟨q1, q2, q3⟩ := word_kind hk0
                   obtain ⟨j, hj⟩ : ∃ j : Nat, kindK l[0] = j := ⟨(kindK l[0]).toNat, by omega⟩
                   rw [hj] at q1 q2 q3
                   refine one_short h0 (fun q => ?_)
                   rw [hj] at q
                   rcases hno j (by omega) (by omega) with p | p
                   · exact p q1
                   · exact p q
               exact ⟨_, rfl, ⟨⟨0, [], [], []⟩, by rw [hno]; rfl, fun x h => by rw [hno] at h; cases h⟩, hX⟩)
        · refine A_skip (i := 3) rfl (by kernel_rfl) (by kernel_rfl) (by kernel_rfl) rfl hS rfl rfl rfl rfl ?_
          refine A_skip (i := 4) rfl (by kernel_rfl) (by kernel_rfl) (by kernel_rfl) rfl hS rfl rfl rfl rfl ?_
          refine A_take (i := 5) rfl (by kernel_rfl) (by kernel_rfl) (by kernel_rfl) rfl hS (fun _ hw => r_pickFV (v := .bool _) rfl rfl) ?_
          refine A_ready1 (i := 6) (by kernel_rfl) ?_
          refine O_storeRow rfl rfl rfl Tryd.sz35 B0_0 rfl rfl ?_
          intro w15_6 C15_6 BB15_6
          replace B5_5 := Chg.blk C15_6 B5_5 (fun q => hNb0_0_5_5 q.symm)
          replace hX := hX.chg C15_6 hG0_0
          replace B0_0 := BB15_6
          replace hS : Ext w w15_6 ∧ Same (fun b : Nat => b = b5_5 ∨ False) wd15 w15_6 := ⟨hX, fun b hb => Or.elim hb (fun q => by subst q; exact Blk.eq B5_5 DB5_5) (fun hb => hb.elim)⟩
          refine ⟨hS, ?_⟩
          refine A_take (i := 7) rfl (by kernel_rfl) (by kernel_rfl) (by kernel_rfl) rfl hS (fun _ hw => r_assignV (v := .bool _) rfl) ?_
          refine A_done (by kernel_rfl) ?_
          refine W_ret (blk_ret (blk_ret (finX_ret ?_)))
          refine fin_cell1 rfl B0_0 Tryd.underlying35 rfl Tryd.sz35 ?_
          first
            | (have hone := hyes (by assumption)
               refine ⟨_, rfl, ⟨⟨k, l[1], o, n⟩, ?_, fun x h => ?_⟩, hX⟩
               · rw [hone]
                 by_cases hr : ruR ⟨k, l[1], o, n⟩
                 · rw [if_pos hr]; simp [hr]; rfl
                 · rw [if_neg hr]; simp [hr]; rfl
               · rw [hone] at h
                 split at h
                 · exact Option.some.inj h
                 · cases h)
            | (have hno := hnot (by assumption)
               exact ⟨_, rfl, ⟨⟨k, l[1], o, n⟩, by rw [hno]; rfl, fun x h => by rw [hno] at h; cases h⟩, hX⟩)
            | (have hno : oneR l = none := by
                 by_cases hk0 : kindK l[0] = 0
                 · exact one_kind h0 hk0
                 · obtain ⟨q1, q2, q3⟩ := word_kind hk0
                   obtain ⟨j, hj⟩ : ∃ j : Nat, kindK l[0] = j := ⟨(kindK l[0]).toNat, by omega⟩
                   rw [hj] at q1 q2 q3
                   refine one_short h0 (fun q => ?_)
                   rw [hj] at q
                   rcases hno j (by omega) (by omega) with p | p
                   · exact p q1
                   · exact p q
               exact ⟨_, rfl, ⟨⟨0, [], [], []⟩, by rw [hno]; rfl, fun x h => by rw [hno] at h; cases h⟩, hX⟩)
  · refine W_exit (blk_hit ?_)
    refine W_seq ?_
    refine W_region ?_
    refine op rfl (r_build (cs := [.int _ _, .string _, .string _, .string _]) Tryd.lay35 (fun _ h => by cases h) rfl rfl) ?_
    refine op_storeRow rfl rfl Tryd.sz35 B0_0 rfl rfl ?_
    intro w16_1 C16_1 BB16_1
    replace hX := hX.chg C16_1 hG0_0
    replace B0_0 := BB16_1
    refine op rfl (r_assignV (v := .bool _) rfl) ?_
    refine WL_nil ?_
    refine W_ret (finX_ret ?_)
    refine fin_cell1 rfl B0_0 Tryd.underlying35 rfl Tryd.sz35 ?_
    first
      | (have hone := hyes (by assumption)
         refine ⟨_, rfl, ⟨⟨k, l[1], o, n⟩, ?_, fun x h => ?_⟩, hX⟩
         · rw [hone]
           by_cases hr : ruR ⟨k, l[1], o, n⟩
           · rw [if_pos hr]; simp [hr]; rfl
           · rw [if_neg hr]; simp [hr]; rfl
         · rw [hone] at h
           split at h
           · exact Option.some.inj h
           · cases h)
      | (have hno := hnot (by assumption)
         exact ⟨_, rfl, ⟨⟨k, l[1], o, n⟩, by rw [hno]; rfl, fun x h => by rw [hno] at h; cases h⟩, hX⟩)
      | (have hno : oneR l = none := by
           by_cases hk0 : kindK l[0] = 0
           · exact one_kind h0 hk0
           · obtain ⟨q1, q2, q3⟩ := word_kind hk0
             obtain ⟨j, hj⟩ : ∃ j : Nat, kindK l[0] = j := ⟨(kindK l[0]).toNat, by omega⟩
             rw [hj] at q1 q2 q3
             refine one_short h0 (fun q => ?_)
             rw [hj] at q
             rcases hno j (by omega) (by omega) with p | p
             · exact p q1
             · exact p q
         exact ⟨_, rfl, ⟨⟨0, [], [], []⟩, by rw [hno]; rfl, fun x h => by rw [hno] at h; cases h⟩, hX⟩)
end Go.Proofs.YtafcaigjijajnaaDoor
