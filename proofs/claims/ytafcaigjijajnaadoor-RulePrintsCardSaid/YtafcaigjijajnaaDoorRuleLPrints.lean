/-
  Any rules' text, and whether any one may be, is what the chapter says: the walk.
-/
import Derived.Test.YtafcaigjijajnaaDoorFacts
import Derived.Test.YtafcaigjijajnaaDoorRuleRp
namespace Go.Proofs.YtafcaigjijajnaaDoor
open Go Go.Eng Go.RowKit Go.Proofs
set_option linter.unusedVariables false
set_option linter.unusedSimpArgs false
set_option maxHeartbeats 1000000
set_option maxRecDepth 20000

theorem rulePrints_walk {A : Option Addr} {c : Nat} {l : List Ru} (r : Ru) (W : World) (hG : Gl W) (hl : l.length ≤ big) (hA : ruT.Row W (old W) A l) (hk : inK .i64 r.k) (hg : r.g.length ≤ 140737488355328) (ho : r.o.length ≤ 140737488355328) (hn : r.n.length ≤ 140737488355328) :
    Calls Tryd.prog 4 #[.slice A l.length c, .agg r.vals.toArray] W (fun en w' => ∃ v, en = .returned v ∧ v = .bool true ∧ Ext W w') := by
  have hbig : big = 140737488355328 := rfl
  have hs1 : ([r].map lenRu).sum = 1 + r.g.length + r.o.length + r.n.length := by simp [lenRu]
  have hL : ∀ w b, Blk w b r.vals.toArray 35 → Calls Tryd.prog 21 #[.slice (some ⟨b, 0, none⟩) 1 1] w (fun en w' => ∃ v, en = .returned v ∧ v = .int .i64 ((1 + r.g.length + r.o.length + r.n.length : Nat) : Int) ∧ Ext w w') := fun w b hB => by
    have := longRu_spec (c := 1) (l := [r]) (row_ru hB (fun _ _ => ru_mk hk hg ho hn)) (by simp)
    rw [hs1] at this
    exact this
  have hPl : ∀ w, Gl w → Ext W w → l.length ≤ 1000 → (l.map lenRu).sum ≤ 3000 → Calls Tryd.prog 22 #[.slice A l.length c] w (fun en w' => ∃ v, en = .returned v ∧ v = .tuple #[sv (printR l).1, .int .i64 (printR l).2] ∧ Ext w w') := fun w hw hE h1 h2 => print_spec hw (hA.ext hE) h1 (len_each h2 (by omega))
  have hRl : ∀ w, Ext W w → l.length ≤ 1000 → (l.map lenRu).sum ≤ 3000 → Calls Tryd.prog 23 #[.slice A l.length c] w (fun en w' => ∃ v, en = .returned v ∧ v = .tuple #[sv (printR l).1, .int .i64 (printR l).2] ∧ Ext w w') := fun w hE h1 h2 => refPrint_spec (hA.ext hE) h1 (len_each h2 (by omega))
  refine calls' (n := 52) (rs := #[.tmp 4]) (l := [.slice A l.length c, .agg r.vals.toArray]) Tryd.func4 rfl rfl rfl rfl rfl ?_
  have hX := Ext.refl W
  refine W_seq ?_
  refine W_region ?_
  refine op_box (v := .agg _) rfl rfl ?_
  intro w0_0 b0_0 E0_0 B0_0 L0_0
  have hG0_0 : W.heap.size ≤ b0_0 := by have := hX.size; omega
  replace hX := hX.trans E0_0
  refine op rfl (r_assignV (v := .bool _) rfl) ?_
  refine WL_nil ?_
  refine W_seq ?_
  refine W_seq ?_
  refine W_region ?_
  refine op rfl (r_moveV (v := .slice _ _ _) rfl) ?_
  refine op rfl (r_len_slice rfl Tryd.underlying23) ?_
  refine op rfl (r_gtr rfl rfl) ?_
  refine op_split rfl (r_moveV (v := .bool (decide _)) rfl) (fun hg12 => ?_) (fun hg12 => ?_)
  · refine opG_no rfl rfl rfl rfl rfl ?_
    refine opG_no rfl rfl rfl rfl rfl ?_
    refine opG_no rfl rfl rfl rfl rfl ?_
    refine op rfl (r_pickTV (v := .bool _) rfl rfl) ?_
    refine op rfl (r_moveV (v := .bool _) rfl) ?_
    refine opG_no rfl rfl rfl rfl rfl ?_
    refine opG_no rfl rfl rfl rfl rfl ?_
    refine opG_no rfl rfl rfl rfl rfl ?_
    refine opG_no rfl rfl rfl rfl rfl ?_
    refine op rfl (r_pickTV (v := .bool _) rfl rfl) ?_
    refine WL_nil ?_
    refine W_then rfl ?_
    refine W_seq ?_
    refine W_region ?_
    refine opCv rfl (r_call Tryd.func11 Tryd.nm11 rfl) (known11_spec _ (hG.ext hX)) ?_
    rintro v2 w2 ⟨rfl, hE⟩
    replace B0_0 := Blk.ext B0_0 hE
    replace hX := hX.trans hE
    refine op rfl (r_assignV (v := .bool _) rfl) ?_
    refine WL_nil ?_
    refine W_ret (finX_ret ?_)
    refine fin1 ?_
    exact ⟨_, rfl, rfl, hX⟩
  · refine opG_yes rfl rfl rfl rfl rfl (r_moveV (v := .slice _ _ _) rfl) ?_
    refine opGCv_yes rfl rfl rfl rfl rfl (r_call Tryd.func21 Tryd.nm21 rfl) (longRu_spec (hA.ext hX) (by omega)) ?_
    rintro v1 w1 ⟨rfl, hE⟩
    replace B0_0 := Blk.ext B0_0 hE
    replace hX := hX.trans hE
    refine opG_yes rfl rfl rfl rfl rfl (r_gtr rfl rfl) ?_
    refine op rfl (r_pickFV (v := .bool _) rfl rfl) ?_
    refine op_split rfl (r_moveV (v := .bool (decide _)) rfl) (fun hg17 => ?_) (fun hg17 => ?_)
    · refine opG_no rfl rfl rfl rfl rfl ?_
      refine opG_no rfl rfl rfl rfl rfl ?_
      refine opG_no rfl rfl rfl rfl rfl ?_
      refine opG_no rfl rfl rfl rfl rfl ?_
      refine op rfl (r_pickTV (v := .bool _) rfl rfl) ?_
      refine WL_nil ?_
      refine W_then rfl ?_
      refine W_seq ?_
      refine W_region ?_
      refine opCv rfl (r_call Tryd.func11 Tryd.nm11 rfl) (known11_spec _ (hG.ext hX)) ?_
      rintro v2 w2 ⟨rfl, hE⟩
      replace B0_0 := Blk.ext B0_0 hE
      replace hX := hX.trans hE
      refine op rfl (r_assignV (v := .bool _) rfl) ?_
      refine WL_nil ?_
      refine W_ret (finX_ret ?_)
      refine fin1 ?_
      exact ⟨_, rfl, rfl, hX⟩
    · refine opG_yes rfl rfl rfl rfl rfl (r_loadRow rfl B0_0 Tryd.underlying35 rfl Tryd.sz35) ?_
      refine op_newSG rfl rfl rfl rfl rfl (r_buildRows (vs := [[.int _ _, .string _, .string _, .string _]]) Tryd.underlying23 Tryd.sz35 Tryd.zero35 rfl rfl rfl) ?_
      intro w1_10 b1_10 E1_10 B1_10 L1_10
      have hG1_10 : W.heap.size ≤ b1_10 := by have := hX.size; omega
      have hNb0_0_1_10 : b0_0 ≠ b1_10 := by have := Blk.lt B0_0; omega
      replace B0_0 := Blk.ext B0_0 E1_10
      replace hX := hX.trans E1_10
      refine opGCv_yes rfl rfl rfl rfl rfl (r_call Tryd.func21 Tryd.nm21 rfl) (hL _ _ B1_10) ?_
      rintro v1b w1b ⟨rfl, hE⟩
      replace B0_0 := Blk.ext B0_0 hE
      replace B1_10 := Blk.ext B1_10 hE
      replace hX := hX.trans hE
      refine opG_yes rfl rfl rfl rfl rfl (r_gtr rfl rfl) ?_
      refine op rfl (r_pickFV (v := .bool _) rfl rfl) ?_
      refine WL_nil ?_
      refine W_ifp rfl (fun ht22 => ?_) (fun ht22 => ?_)
      · refine W_seq ?_
        refine W_region ?_
        refine opCv rfl (r_call Tryd.func11 Tryd.nm11 rfl) (known11_spec _ (hG.ext hX)) ?_
        rintro v2 w2 ⟨rfl, hE⟩
        replace B0_0 := Blk.ext B0_0 hE
        replace B1_10 := Blk.ext B1_10 hE
        replace hX := hX.trans hE
        refine op rfl (r_assignV (v := .bool _) rfl) ?_
        refine WL_nil ?_
        refine W_ret (finX_ret ?_)
        refine fin1 ?_
        exact ⟨_, rfl, rfl, hX⟩
      · have h60 : l.length ≤ 60 := by omega
        have hsum : (l.map lenRu).sum ≤ 3000 := by omega
        refine W_skip ?_
        refine W_seq ?_
        refine W_region ?_
        refine op rfl (r_moveV (v := .slice _ _ _) rfl) ?_
        refine opCv rfl (r_call Tryd.func22 Tryd.nm22 rfl) (hPl _ (hG.ext hX) hX (by omega) hsum) ?_
        rintro v3 w3 ⟨rfl, hE⟩
        replace B0_0 := Blk.ext B0_0 hE
        replace hX := hX.trans hE
        refine op rfl (r_moveV (v := .tuple #[sv (printR l).1, .int .i64 (printR l).2]) rfl) ?_
        refine op rfl (r_extract (vs := [sv (printR l).1, .int .i64 (printR l).2]) rfl rfl) ?_
        refine op rfl (r_extract (vs := [sv (printR l).1, .int .i64 (printR l).2]) rfl rfl) ?_
        refine op rfl (r_assignV (v := sv (printR l).1) rfl) ?_
        refine op rfl (r_assignV (v := .int .i64 (printR l).2) rfl) ?_
        refine WL_nil ?_
        refine W_seq ?_
        refine W_region ?_
        refine op rfl (r_moveV (v := .slice _ _ _) rfl) ?_
        refine opCv rfl (r_call Tryd.func23 Tryd.nm23 rfl) (hRl _ hX (by omega) hsum) ?_
        rintro v4 w4 ⟨rfl, hE⟩
        replace B0_0 := Blk.ext B0_0 hE
        replace hX := hX.trans hE
        refine op rfl (r_moveV (v := .tuple #[sv (printR l).1, .int .i64 (printR l).2]) rfl) ?_
        refine op rfl (r_extract (vs := [sv (printR l).1, .int .i64 (printR l).2]) rfl rfl) ?_
        refine op rfl (r_extract (vs := [sv (printR l).1, .int .i64 (printR l).2]) rfl rfl) ?_
        refine op rfl (r_assignV (v := sv (printR l).1) rfl) ?_
        refine op rfl (r_assignV (v := .int .i64 (printR l).2) rfl) ?_
        refine WL_nil ?_
        refine W_seq ?_
        refine W_drawF (W0 := W) (fun b : Nat => b = b0_0 ∨ False) Tryd.wd rfl ?_
        intro wd5 hD
        replace B0_0 := Blk.ext B0_0 hD
        replace hX := hX.trans hD
        have DB0_0 := B0_0
        have hS : Ext W wd5 ∧ Same (fun b : Nat => b = b0_0 ∨ False) wd5 wd5 := ⟨hX, fun _ _ => rfl⟩
        refine A_take (i := 0) rfl (by kernel_rfl) (by kernel_rfl) (by kernel_rfl) rfl hS (fun _ hw => r_moveV (v := sv (printR l).1) rfl) ?_
        refine A_take (i := 1) rfl (by kernel_rfl) (by kernel_rfl) (by kernel_rfl) rfl hS (fun _ hw => r_moveV (v := sv (printR l).1) rfl) ?_
        refine A_take (i := 2) rfl (by kernel_rfl) (by kernel_rfl) (by kernel_rfl) rfl hS (fun _ hw => rt_eql rfl rfl) ?_
        refine A_true (i := 3) rfl (by kernel_rfl) (by kernel_rfl) (by kernel_rfl) rfl hS (fun _ _ => r_moveV (v := .bool (decide _)) rfl) (rfl) ?_
        refine A_takeG (i := 4) rfl (by kernel_rfl) (by kernel_rfl) (by kernel_rfl) rfl hS rfl rfl rfl rfl (fun _ hw => r_moveV (v := .int .i64 (printR l).2) rfl) ?_
        refine A_takeG (i := 5) rfl (by kernel_rfl) (by kernel_rfl) (by kernel_rfl) rfl hS rfl rfl rfl rfl (fun _ hw => r_moveV (v := .int .i64 (printR l).2) rfl) ?_
        refine A_takeG (i := 6) rfl (by kernel_rfl) (by kernel_rfl) (by kernel_rfl) rfl hS rfl rfl rfl rfl (fun _ hw => r_eql rfl rfl) ?_
        refine A_take (i := 7) rfl (by kernel_rfl) (by kernel_rfl) (by kernel_rfl) rfl hS (fun _ hw => r_pickTV (v := .bool _) rfl rfl) ?_
        refine A_true (i := 8) rfl (by kernel_rfl) (by kernel_rfl) (by kernel_rfl) rfl hS (fun _ _ => r_moveV (v := .bool (decide _)) rfl) (rfl) ?_
        refine A_takeG (i := 9) rfl (by kernel_rfl) (by kernel_rfl) (by kernel_rfl) rfl hS rfl rfl rfl rfl (fun _ hw => r_loadRow rfl (Blk.at DB0_0 (hw.2 _ (Or.inl rfl))) Tryd.underlying35 rfl Tryd.sz35) ?_
        refine A_takeG (i := 11) rfl (by kernel_rfl) (by kernel_rfl) (by kernel_rfl) rfl hS rfl rfl rfl rfl (fun _ hw => r_loadRow rfl (Blk.at DB0_0 (hw.2 _ (Or.inl rfl))) Tryd.underlying35 rfl Tryd.sz35) ?_
        refine A_ready1 (i := 10) (by kernel_rfl) ?_
        refine O_callG rfl rfl rfl rfl rfl rfl (r_call Tryd.func24 Tryd.nm24 rfl) (rright_spec r _ (ext_cell hX hG.max.choose_spec) (by omega) (by omega) (by omega)) ?_
        rintro v5 w5 ⟨rfl, hE⟩
        replace B0_0 := Blk.ext B0_0 hE
        replace hX := hX.trans hE
        replace hS : Ext W w5 ∧ Same (fun b : Nat => b = b0_0 ∨ False) wd5 w5 := ⟨hX, fun b hb => Or.elim hb (fun q => by subst q; exact Blk.eq B0_0 DB0_0) (fun hb => hb.elim)⟩
        refine ⟨hS, ?_⟩
        refine A_ready1 (i := 12) (by kernel_rfl) ?_
        refine O_callG rfl rfl rfl rfl rfl rfl (r_call Tryd.func25 Tryd.nm25 rfl) (refRight_spec r _ (by omega) (by omega) (by omega)) ?_
        rintro v5b w5b ⟨rfl, hE⟩
        replace B0_0 := Blk.ext B0_0 hE
        replace hX := hX.trans hE
        replace hS : Ext W w5b ∧ Same (fun b : Nat => b = b0_0 ∨ False) wd5 w5b := ⟨hX, fun b hb => Or.elim hb (fun q => by subst q; exact Blk.eq B0_0 DB0_0) (fun hb => hb.elim)⟩
        refine ⟨hS, ?_⟩
        refine A_takeG (i := 13) rfl (by kernel_rfl) (by kernel_rfl) (by kernel_rfl) rfl hS rfl rfl rfl rfl (fun _ hw => rb_eql rfl rfl Tryd.underlying4) ?_
        refine A_take (i := 14) rfl (by kernel_rfl) (by kernel_rfl) (by kernel_rfl) rfl hS (fun _ hw => r_pickTV (v := .bool _) rfl rfl) ?_
        refine A_true (i := 15) rfl (by kernel_rfl) (by kernel_rfl) (by kernel_rfl) rfl hS (fun _ _ => r_moveV (v := .bool (decide _)) rfl) (rfl) ?_
        refine A_ready1 (i := 16) (by kernel_rfl) ?_
        refine O_callG rfl rfl rfl rfl rfl rfl (r_call Tryd.func11 Tryd.nm11 rfl) (known11_spec _ (hG.ext hX)) ?_
        rintro v5c w5c ⟨rfl, hE⟩
        replace B0_0 := Blk.ext B0_0 hE
        replace hX := hX.trans hE
        replace hS : Ext W w5c ∧ Same (fun b : Nat => b = b0_0 ∨ False) wd5 w5c := ⟨hX, fun b hb => Or.elim hb (fun q => by subst q; exact Blk.eq B0_0 DB0_0) (fun hb => hb.elim)⟩
        refine ⟨hS, ?_⟩
        refine A_take (i := 17) rfl (by kernel_rfl) (by kernel_rfl) (by kernel_rfl) rfl hS (fun _ hw => r_pickTV (v := .bool _) rfl rfl) ?_
        refine A_take (i := 18) rfl (by kernel_rfl) (by kernel_rfl) (by kernel_rfl) rfl hS (fun _ hw => r_assignV (v := .bool _) rfl) ?_
        refine A_done (by kernel_rfl) ?_
        refine W_ret (finX_ret ?_)
        refine fin1 ?_
        exact ⟨_, rfl, rfl, hX⟩
theorem rulePrints_row (W : World) (hG : Gl W) (A : Option Addr) (c : Nat) (l : List Ru) (hc : l.length ≤ c) (hl : l.length ≤ big) (hA : ruT.Row W (old W) A l) (r : Ru) (cs : List Value) (hr : ruT.R W (old W) r cs) :
    Calls Tryd.prog 4 #[.slice A l.length c, .agg cs.toArray] W (fun e W' => ∃ v, e = .returned v ∧ v = .bool true ∧ Ext W W') := by
  obtain ⟨rfl, h1, h2, h3, h4⟩ := ru_cells hr
  exact rulePrints_walk r W hG hl hA h1 h2 h3 h4
end Go.Proofs.YtafcaigjijajnaaDoor
