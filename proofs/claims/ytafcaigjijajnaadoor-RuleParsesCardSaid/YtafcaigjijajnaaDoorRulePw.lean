/-
  The walk of rules' text.
-/
import Derived.Test.YtafcaigjijajnaaDoorFacts
import Derived.Test.YtafcaigjijajnaaDoorRulePrint
namespace Go.Proofs.YtafcaigjijajnaaDoor
open Go Go.Eng Go.RowKit Go.Proofs
set_option linter.unusedVariables false
set_option linter.unusedSimpArgs false
set_option maxHeartbeats 1000000
set_option maxRecDepth 20000

theorem words_len (r : Ru) : 2 ≤ (wordsR r).length ∧ (wordsR r).length ≤ 4 := by
  unfold wordsR
  have := texts_le r.k
  simp only [List.length_cons, List.length_take, List.length_nil]
  omega
theorem print_spec {A : Option Addr} {c : Nat} {l : List Ru} {w : World} {G : Nat → Prop} (hG : Gl w) (hrow : ruT.Row w G A l) (hl : l.length ≤ 1000) (hb : ∀ r ∈ l, r.g.length ≤ 1099511627776 ∧ r.o.length ≤ 1099511627776 ∧ r.n.length ≤ 1099511627776) :
    Calls Tryd.prog 22 #[.slice A l.length c] w (fun en w' => ∃ v, en = .returned v ∧ v = .tuple #[sv (printR l).1, .int .i64 (printR l).2] ∧ Ext w w') := by
  have hat := ru_at hrow
  obtain ⟨mx, hmx⟩ := hG.max
  refine calls' (n := 48) (rs := #[.tmp 2, .tmp 3]) (l := [.slice A l.length c]) Tryd.func22 rfl rfl rfl rfl rfl ?_
  have hX := Ext.refl w
  refine W_seq ?_
  refine W_region ?_
  refine op rfl (r_assignV (v := .string _) rfl) ?_
  refine op rfl (r_assignV (v := .int _ _) rfl) ?_
  refine WL_nil ?_
  refine W_seq ?_
  refine W_region ?_
  refine op_alloc rfl Tryd.zero66 ?_
  intro w1_0 b1_0 E1_0 B1_0 L1_0
  have hG1_0 : w.heap.size ≤ b1_0 := by have := hX.size; omega
  replace hX := hX.trans E1_0
  refine WL_nil ?_
  refine W_seq ?_
  refine W_seq ?_
  refine W_region ?_
  refine op rfl (r_moveV (v := .slice _ _ _) rfl) ?_
  refine op rfl (r_len_slice rfl Tryd.underlying23) ?_
  refine op rfl (r_moveV (v := .int _ _) rfl) ?_
  refine WL_nil ?_
  refine W_block ?_
  refine W_loop [2, 3, 6, 7, 8, 9, 12, 13, 14, 15, 16, 17, 18, 19, 20, 21, 22, 23, 24, 25, 26, 27, 28, 29, 30, 31, 32, 33, 34, 35, 36, 37, 38, 39, 40, 41, 42, 43] (fun q e' w' => ∃ i : Nat, q = l.length - i ∧ i ≤ l.length ∧ e' 12 = .int .i64 i ∧ BufA w.heap.size b1_0 w' (textR (l.take i)) ∧ (∀ r ∈ l.take i, ruR r) ∧ Ext w w') (l.length) ?_ ?_
  · exact ⟨0, by omega, by omega, rfl, BufAt.new _ B1_0, fun r h => by simp at h, hX⟩
  intro k g w' hI
  obtain ⟨i, hq, hi, h12, hBf, hall, hX'⟩ := hI
  clear hX
  have hX := Ext.refl w'
  obtain ⟨w0i, hw0i⟩ : ∃ y, y = w' := ⟨_, rfl⟩
  subst hw0i
  refine W_set (i := 12) h12 ?_
  refine W_seq ?_
  refine W_region ?_
  refine op rfl (r_lss rfl rfl) ?_
  refine WL_nil ?_
  refine W_seq ?_
  refine W_ifp rfl (fun ht13 => ?_) (fun ht13 => ?_)
  · have hlt : i < l.length := by omega
    obtain ⟨g1, o1, hA, _, hk, hg, ho, hn, hc⟩ := hat i hlt
    obtain ⟨hg2, ho2, hn2⟩ := hb _ (List.getElem_mem hlt)
    refine W_skip ?_
    refine W_seq ?_
    refine W_block ?_
    refine W_seq ?_
    refine W_region ?_
    refine op rfl (r_indexAddrK (by rw [← hA]; rfl) rfl Tryd.underlying23 Tryd.sz35 hlt) ?_
    refine op rfl (r_load_agg (cs := l[i].vals) rfl Tryd.underlying35 rfl Tryd.sz35 rfl (ext_row (hX'.trans hX) rfl hc)) ?_
    refine op_alloc rfl Tryd.zero35 ?_
    intro w4_2 b4_2 E4_2 B4_2 L4_2
    have hG4_2 : w0i.heap.size ≤ b4_2 := by have := hX.size; omega
    replace hX := hX.trans E4_2
    refine op_storeRow rfl rfl Tryd.sz35 B4_2 rfl rfl ?_
    intro w4_3 C4_3 BB4_3
    replace hX := hX.chg C4_3 hG4_2
    replace B4_2 := BB4_3
    refine WL_nil ?_
    refine W_seq ?_
    refine W_seq ?_
    refine W_region ?_
    refine op rfl (r_loadRow rfl B4_2 Tryd.underlying35 rfl Tryd.sz35) ?_
    refine opCv rfl (r_call Tryd.func24 Tryd.nm24 rfl) (rright_spec l[i] _ (ext_cell (hX'.trans hX) hmx) hg2 ho2 hn2) ?_
    rintro v5 w5 ⟨rfl, hE⟩
    replace B4_2 := Blk.ext B4_2 hE
    replace hX := hX.trans hE
    refine op rfl (r_notP rfl) ?_
    refine WL_nil ?_
    refine W_ifp rfl (fun ht18 => ?_) (fun ht18 => ?_)
    · refine W_seq ?_
      refine W_region ?_
      refine op rfl (r_assignV (v := .string _) rfl) ?_
      refine op rfl (r_assignV (v := .int _ _) rfl) ?_
      refine WL_nil ?_
      refine W_ret (blk_ret (blk_ret (finX_ret ?_)))
      refine fin2 ?_
      first
        | (have hp : printR l = ([], 2) := by unfold printR; rw [if_neg (fun q => ht18 (q _ (List.getElem_mem hlt)))]
           exact ⟨_, rfl, by rw [hp]; rfl, hX'.trans hX⟩)
        | (have hp : printR l = ([], 3) := by unfold printR; rw [if_pos hall, if_pos (by omega)]
           exact ⟨_, rfl, by rw [hp]; rfl, hX'.trans hX⟩)
        | (have hp : printR l = (textR l, 0) := by unfold printR; rw [if_pos hall, if_neg (by omega)]
           exact ⟨_, rfl, by rw [hp]; rfl, Mv.buf_ext (hX'.trans hX) hM13 hG1_0 (Nat.le_refl _)⟩)
    · have hri : ruR l[i] := Classical.not_not.1 ht18
      have hkr := kind_range hri.2.2.2
      refine W_skip ?_
      refine W_seq ?_
      refine W_region ?_
      refine op rfl (r_fieldAddr rfl Tryd.fld35_0 rfl) ?_
      refine op rfl (r_load (v := .int .i64 l[i].k) rfl Tryd.underlying3 rfl (Blk.cell B4_2 rfl)) ?_
      refine opCv rfl (r_call Tryd.func38 Tryd.nm38 rfl) (word_spec l[i].k _ hkr) ?_
      rintro v7 w7 ⟨rfl, hE⟩
      replace B4_2 := Blk.ext B4_2 hE
      replace hX := hX.trans hE
      have hX7 := hX
      clear hX
      have hX := Ext.refl w7
      refine op rfl (r_moveV (v := .tuple #[sv (wordK l[i].k), .int .i64 (textsK l[i].k : Nat)]) rfl) ?_
      refine op rfl (r_extract (vs := [sv (wordK l[i].k), .int .i64 (textsK l[i].k : Nat)]) rfl rfl) ?_
      refine op rfl (r_extract (vs := [sv (wordK l[i].k), .int .i64 (textsK l[i].k : Nat)]) rfl rfl) ?_
      refine op rfl (r_assignV (v := sv (wordK l[i].k)) rfl) ?_
      refine op rfl (r_assignV (v := .int .i64 (textsK l[i].k : Nat)) rfl) ?_
      refine WL_nil ?_
      refine W_cut [9, 25, 26, 27, 28, 29, 30, 31, 32, 33, 34, 35, 36, 37, 38] (fun e' w' => ∃ v9, e' 9 = v9 ∧ Eng.Own strT' w' nobody w7.heap.size 9 v9 (wordsR l[i]) ∧ Ext w7 w') ?_ ?_
      · refine W_drawF (W0 := w7) (fun b : Nat => b = b4_2 ∨ False) Tryd.wd rfl ?_
        intro wd8 hD
        replace B4_2 := Blk.ext B4_2 hD
        replace hX := hX.trans hD
        have DB4_2 := B4_2
        have hS : Ext w7 wd8 ∧ Same (fun b : Nat => b = b4_2 ∨ False) wd8 wd8 := ⟨hX, fun _ _ => rfl⟩
        refine A_take (i := 0) rfl (by kernel_rfl) (by kernel_rfl) (by kernel_rfl) rfl hS (fun _ hw => r_moveV (v := sv (wordK l[i].k)) rfl) ?_
        refine A_take (i := 1) rfl (by kernel_rfl) (by kernel_rfl) (by kernel_rfl) rfl hS (fun _ hw => r_fieldAddr rfl Tryd.fld35_1 rfl) ?_
        refine A_take (i := 2) rfl (by kernel_rfl) (by kernel_rfl) (by kernel_rfl) rfl hS (fun _ hw => r_load (v := sv l[i].g) rfl Tryd.underlying9 rfl (Blk.cell (Blk.at DB4_2 (hw.2 _ (Or.inl rfl))) rfl)) ?_
        refine A_take (i := 4) rfl (by kernel_rfl) (by kernel_rfl) (by kernel_rfl) rfl hS (fun _ hw => r_fieldAddr rfl Tryd.fld35_2 rfl) ?_
        refine A_take (i := 5) rfl (by kernel_rfl) (by kernel_rfl) (by kernel_rfl) rfl hS (fun _ hw => r_load (v := sv l[i].o) rfl Tryd.underlying9 rfl (Blk.cell (Blk.at DB4_2 (hw.2 _ (Or.inl rfl))) rfl)) ?_
        refine A_take (i := 7) rfl (by kernel_rfl) (by kernel_rfl) (by kernel_rfl) rfl hS (fun _ hw => r_fieldAddr rfl Tryd.fld35_3 rfl) ?_
        refine A_take (i := 8) rfl (by kernel_rfl) (by kernel_rfl) (by kernel_rfl) rfl hS (fun _ hw => r_load (v := sv l[i].n) rfl Tryd.underlying9 rfl (Blk.cell (Blk.at DB4_2 (hw.2 _ (Or.inl rfl))) rfl)) ?_
        refine A_take (i := 11) rfl (by kernel_rfl) (by kernel_rfl) (by kernel_rfl) rfl hS (fun _ hw => r_moveV (v := .int .i64 (textsK l[i].k : Nat)) rfl) ?_
        refine A_ready2 (i := 3) (j := 6) (by kernel_rfl) ?_ ?_
        · refine O_newS rfl rfl (r_buildSlice (vs := [.string _, .string _]) Tryd.underlying49 Tryd.sz9 Tryd.zero9 rfl rfl rfl) ?_
          intro w8_3 b8_3 E8_3 B8_3 L8_3
          have hG8_3 : w7.heap.size ≤ b8_3 := by have := hX.size; omega
          have hNb4_2_8_3 : b4_2 ≠ b8_3 := by have := Blk.lt B4_2; omega
          replace B4_2 := Blk.ext B4_2 E8_3
          replace hX := hX.trans E8_3
          replace hS : Ext w7 w8_3 ∧ Same (fun b : Nat => b = b4_2 ∨ False) wd8 w8_3 := ⟨hX, fun b hb => Or.elim hb (fun q => by subst q; exact Blk.eq B4_2 DB4_2) (fun hb => hb.elim)⟩
          refine ⟨hS, ?_⟩
          refine A_ready1 (i := 6) (by kernel_rfl) ?_
          refine O_call rfl rfl (r_call Tryd.func17 Tryd.nm17 rfl) (quote_spec l[i].o _ ho2) ?_
          rintro v8 w8 ⟨rfl, hE⟩
          replace B4_2 := Blk.ext B4_2 hE
          replace B8_3 := Blk.ext B8_3 hE
          replace hX := hX.trans hE
          replace hS : Ext w7 w8 ∧ Same (fun b : Nat => b = b4_2 ∨ False) wd8 w8 := ⟨hX, fun b hb => Or.elim hb (fun q => by subst q; exact Blk.eq B4_2 DB4_2) (fun hb => hb.elim)⟩
          refine ⟨hS, ?_⟩
          refine A_ready1 (i := 9) (by kernel_rfl) ?_
          refine O_call rfl rfl (r_call Tryd.func17 Tryd.nm17 rfl) (quote_spec l[i].n _ hn2) ?_
          rintro v8b w8b ⟨rfl, hE⟩
          replace B4_2 := Blk.ext B4_2 hE
          replace B8_3 := Blk.ext B8_3 hE
          replace hX := hX.trans hE
          replace hS : Ext w7 w8b ∧ Same (fun b : Nat => b = b4_2 ∨ False) wd8 w8b := ⟨hX, fun b hb => Or.elim hb (fun q => by subst q; exact Blk.eq B4_2 DB4_2) (fun hb => hb.elim)⟩
          refine ⟨hS, ?_⟩
          refine A_ready1 (i := 10) (by kernel_rfl) ?_
          refine O_newS rfl rfl (r_buildSlice (vs := [.string _, .string _]) Tryd.underlying49 Tryd.sz9 Tryd.zero9 rfl rfl rfl) ?_
          intro w8_10 b8_10 E8_10 B8_10 L8_10
          have hG8_10 : w7.heap.size ≤ b8_10 := by have := hX.size; omega
          have hNb4_2_8_10 : b4_2 ≠ b8_10 := by have := Blk.lt B4_2; omega
          replace B4_2 := Blk.ext B4_2 E8_10
          have hNb8_3_8_10 : b8_3 ≠ b8_10 := by have := Blk.lt B8_3; omega
          replace B8_3 := Blk.ext B8_3 E8_10
          replace hX := hX.trans E8_10
          replace hS : Ext w7 w8_10 ∧ Same (fun b : Nat => b = b4_2 ∨ False) wd8 w8_10 := ⟨hX, fun b hb => Or.elim hb (fun q => by subst q; exact Blk.eq B4_2 DB4_2) (fun hb => hb.elim)⟩
          refine ⟨hS, ?_⟩
          refine A_take (i := 12) rfl (by kernel_rfl) (by kernel_rfl) (by kernel_rfl) rfl hS (fun _ hw => r_sliceHi (j := textsK l[i].k) rfl rfl Tryd.underlying49 Tryd.sz9 (texts_le _)) ?_
          refine A_ready1 (i := 13) (by kernel_rfl) ?_
          have hgl : l[i].g.length ≤ 100 := hri.1.2
          have hol := quote_len l[i].o
          have hnl := quote_len l[i].n
          have hwl := word_len l[i].k
          have hrow10 : strT'.Row _ (old _) (some ⟨b8_10, 0, none⟩) [quoteB l[i].o, quoteB l[i].n] := Blk.row B8_10 (Blk.lt B8_10) fun j hj => by
            rcases j with _ | _ | j
            · exact ⟨[sv (quoteB l[i].o)], ⟨rfl, by show (quoteB l[i].o).length ≤ _; omega⟩, fun j hj => by
                have hj1 : j < 1 := hj
                obtain rfl : j = 0 := by omega
                rfl⟩
            · exact ⟨[sv (quoteB l[i].n)], ⟨rfl, by show (quoteB l[i].n).length ≤ _; omega⟩, fun j hj => by
                have hj1 : j < 1 := hj
                obtain rfl : j = 0 := by omega
                rfl⟩
            · simp at hj; omega
          have hrowT := hrow10.take (textsK l[i].k)
          have htl := texts_le l[i].k
          have hlt2 : ([quoteB l[i].o, quoteB l[i].n].take (textsK l[i].k)).length = textsK l[i].k := by rw [List.length_take]; simp; omega
          have hown : Eng.Own strT' _ nobody w7.heap.size 9 (.slice (some ⟨b8_3, 0, none⟩) 2 2) [wordK l[i].k, l[i].g] := Own.of_blk (l := [wordK l[i].k, l[i].g]) hG8_3 B8_3 (by simp) rfl (fun x hx => by
            simp only [List.mem_cons, List.not_mem_nil, or_false] at hx
            rcases hx with rfl | rfl <;> omega) (fun j hj => by
            rcases j with _ | _ | j
            · rfl
            · rfl
            · simp at hj; omega)
          refine O_append (T := strT') (F := nobody) (l := [wordK l[i].k, l[i].g]) (m := [quoteB l[i].o, quoteB l[i].n].take (textsK l[i].k)) (A := some ⟨b8_10, 0, none⟩) (c := 2) rfl rfl rfl (by rw [hlt2]; rfl) Tryd.underlying49 Tryd.sz9 Tryd.by9 Tryd.zero9 rfl hown (hrowT.srcF flat_scalar) (fun _ q => q.elim) (by rw [hlt2]; simp; omega) (by rw [hlt2]; simp; omega) hX.size ?_
          intro v13 w13 hO13 hG13 hv13
          have hX13 : Ext w7 w13 := hX.gro hG13 hX.size (fun k hk => (hown.lt hk).1)
          replace hS : Ext w7 w13 ∧ Same (fun b => b = b4_2 ∨ False) wd8 w13 := ⟨hX13, fun b hb => by
            have h1 := hS.2 b hb
            rw [← h1]
            have hbb : b = b4_2 := by simpa using hb
            rw [hbb]
            exact hG13.block b4_2 (Blk.lt B4_2) (fun q => hNb4_2_8_3 (Option.some.inj q).symm)⟩
          refine ⟨hS, ?_⟩
          refine A_take (i := 14) rfl (by kernel_rfl) (by kernel_rfl) (by kernel_rfl) rfl hS (fun _ hw => r_assignV (v := v13) rfl) ?_
          refine A_done (by kernel_rfl) ?_
          refine ⟨?_, by repeat (first | with_reducible exact Out.refl _ _ | with_reducible exact Out.mix | refine Out.put rfl ?_ | refine Out.mixin rfl ?_ | exact Out.refl _ _ | exact Out.mix)⟩
          exact ⟨_, rfl, hO13, hX13⟩
        · refine O_call rfl rfl (r_call Tryd.func17 Tryd.nm17 rfl) (quote_spec l[i].o _ ho2) ?_
          rintro v8 w8 ⟨rfl, hE⟩
          replace B4_2 := Blk.ext B4_2 hE
          replace hX := hX.trans hE
          replace hS : Ext w7 w8 ∧ Same (fun b : Nat => b = b4_2 ∨ False) wd8 w8 := ⟨hX, fun b hb => Or.elim hb (fun q => by subst q; exact Blk.eq B4_2 DB4_2) (fun hb => hb.elim)⟩
          refine ⟨hS, ?_⟩
          refine A_ready2 (i := 3) (j := 9) (by kernel_rfl) ?_ ?_
          · refine O_newS rfl rfl (r_buildSlice (vs := [.string _, .string _]) Tryd.underlying49 Tryd.sz9 Tryd.zero9 rfl rfl rfl) ?_
            intro w8_3 b8_3 E8_3 B8_3 L8_3
            have hG8_3 : w7.heap.size ≤ b8_3 := by have := hX.size; omega
            have hNb4_2_8_3 : b4_2 ≠ b8_3 := by have := Blk.lt B4_2; omega
            replace B4_2 := Blk.ext B4_2 E8_3
            replace hX := hX.trans E8_3
            replace hS : Ext w7 w8_3 ∧ Same (fun b : Nat => b = b4_2 ∨ False) wd8 w8_3 := ⟨hX, fun b hb => Or.elim hb (fun q => by subst q; exact Blk.eq B4_2 DB4_2) (fun hb => hb.elim)⟩
            refine ⟨hS, ?_⟩
            refine A_ready1 (i := 9) (by kernel_rfl) ?_
            refine O_call rfl rfl (r_call Tryd.func17 Tryd.nm17 rfl) (quote_spec l[i].n _ hn2) ?_
            rintro v8b w8b ⟨rfl, hE⟩
            replace B4_2 := Blk.ext B4_2 hE
            replace B8_3 := Blk.ext B8_3 hE
            replace hX := hX.trans hE
            replace hS : Ext w7 w8b ∧ Same (fun b : Nat => b = b4_2 ∨ False) wd8 w8b := ⟨hX, fun b hb => Or.elim hb (fun q => by subst q; exact Blk.eq B4_2 DB4_2) (fun hb => hb.elim)⟩
            refine ⟨hS, ?_⟩
            refine A_ready1 (i := 10) (by kernel_rfl) ?_
            refine O_newS rfl rfl (r_buildSlice (vs := [.string _, .string _]) Tryd.underlying49 Tryd.sz9 Tryd.zero9 rfl rfl rfl) ?_
            intro w8_10 b8_10 E8_10 B8_10 L8_10
            have hG8_10 : w7.heap.size ≤ b8_10 := by have := hX.size; omega
            have hNb4_2_8_10 : b4_2 ≠ b8_10 := by have := Blk.lt B4_2; omega
            replace B4_2 := Blk.ext B4_2 E8_10
            have hNb8_3_8_10 : b8_3 ≠ b8_10 := by have := Blk.lt B8_3; omega
            replace B8_3 := Blk.ext B8_3 E8_10
            replace hX := hX.trans E8_10
            replace hS : Ext w7 w8_10 ∧ Same (fun b : Nat => b = b4_2 ∨ False) wd8 w8_10 := ⟨hX, fun b hb => Or.elim hb (fun q => by subst q; exact Blk.eq B4_2 DB4_2) (fun hb => hb.elim)⟩
            refine ⟨hS, ?_⟩
            refine A_take (i := 12) rfl (by kernel_rfl) (by kernel_rfl) (by kernel_rfl) rfl hS (fun _ hw => r_sliceHi (j := textsK l[i].k) rfl rfl Tryd.underlying49 Tryd.sz9 (texts_le _)) ?_
            refine A_ready1 (i := 13) (by kernel_rfl) ?_
            have hgl : l[i].g.length ≤ 100 := hri.1.2
            have hol := quote_len l[i].o
            have hnl := quote_len l[i].n
            have hwl := word_len l[i].k
            have hrow10 : strT'.Row _ (old _) (some ⟨b8_10, 0, none⟩) [quoteB l[i].o, quoteB l[i].n] := Blk.row B8_10 (Blk.lt B8_10) fun j hj => by
              rcases j with _ | _ | j
              · exact ⟨[sv (quoteB l[i].o)], ⟨rfl, by show (quoteB l[i].o).length ≤ _; omega⟩, fun j hj => by
                  have hj1 : j < 1 := hj
                  obtain rfl : j = 0 := by omega
                  rfl⟩
              · exact ⟨[sv (quoteB l[i].n)], ⟨rfl, by show (quoteB l[i].n).length ≤ _; omega⟩, fun j hj => by
                  have hj1 : j < 1 := hj
                  obtain rfl : j = 0 := by omega
                  rfl⟩
              · simp at hj; omega
            have hrowT := hrow10.take (textsK l[i].k)
            have htl := texts_le l[i].k
            have hlt2 : ([quoteB l[i].o, quoteB l[i].n].take (textsK l[i].k)).length = textsK l[i].k := by rw [List.length_take]; simp; omega
            have hown : Eng.Own strT' _ nobody w7.heap.size 9 (.slice (some ⟨b8_3, 0, none⟩) 2 2) [wordK l[i].k, l[i].g] := Own.of_blk (l := [wordK l[i].k, l[i].g]) hG8_3 B8_3 (by simp) rfl (fun x hx => by
              simp only [List.mem_cons, List.not_mem_nil, or_false] at hx
              rcases hx with rfl | rfl <;> omega) (fun j hj => by
              rcases j with _ | _ | j
              · rfl
              · rfl
              · simp at hj; omega)
            refine O_append (T := strT') (F := nobody) (l := [wordK l[i].k, l[i].g]) (m := [quoteB l[i].o, quoteB l[i].n].take (textsK l[i].k)) (A := some ⟨b8_10, 0, none⟩) (c := 2) rfl rfl rfl (by rw [hlt2]; rfl) Tryd.underlying49 Tryd.sz9 Tryd.by9 Tryd.zero9 rfl hown (hrowT.srcF flat_scalar) (fun _ q => q.elim) (by rw [hlt2]; simp; omega) (by rw [hlt2]; simp; omega) hX.size ?_
            intro v13 w13 hO13 hG13 hv13
            have hX13 : Ext w7 w13 := hX.gro hG13 hX.size (fun k hk => (hown.lt hk).1)
            replace hS : Ext w7 w13 ∧ Same (fun b => b = b4_2 ∨ False) wd8 w13 := ⟨hX13, fun b hb => by
              have h1 := hS.2 b hb
              rw [← h1]
              have hbb : b = b4_2 := by simpa using hb
              rw [hbb]
              exact hG13.block b4_2 (Blk.lt B4_2) (fun q => hNb4_2_8_3 (Option.some.inj q).symm)⟩
            refine ⟨hS, ?_⟩
            refine A_take (i := 14) rfl (by kernel_rfl) (by kernel_rfl) (by kernel_rfl) rfl hS (fun _ hw => r_assignV (v := v13) rfl) ?_
            refine A_done (by kernel_rfl) ?_
            refine ⟨?_, by repeat (first | with_reducible exact Out.refl _ _ | with_reducible exact Out.mix | refine Out.put rfl ?_ | refine Out.mixin rfl ?_ | exact Out.refl _ _ | exact Out.mix)⟩
            exact ⟨_, rfl, hO13, hX13⟩
          · refine O_call rfl rfl (r_call Tryd.func17 Tryd.nm17 rfl) (quote_spec l[i].n _ hn2) ?_
            rintro v8b w8b ⟨rfl, hE⟩
            replace B4_2 := Blk.ext B4_2 hE
            replace hX := hX.trans hE
            replace hS : Ext w7 w8b ∧ Same (fun b : Nat => b = b4_2 ∨ False) wd8 w8b := ⟨hX, fun b hb => Or.elim hb (fun q => by subst q; exact Blk.eq B4_2 DB4_2) (fun hb => hb.elim)⟩
            refine ⟨hS, ?_⟩
            refine A_ready2 (i := 3) (j := 10) (by kernel_rfl) ?_ ?_
            · refine O_newS rfl rfl (r_buildSlice (vs := [.string _, .string _]) Tryd.underlying49 Tryd.sz9 Tryd.zero9 rfl rfl rfl) ?_
              intro w8_3 b8_3 E8_3 B8_3 L8_3
              have hG8_3 : w7.heap.size ≤ b8_3 := by have := hX.size; omega
              have hNb4_2_8_3 : b4_2 ≠ b8_3 := by have := Blk.lt B4_2; omega
              replace B4_2 := Blk.ext B4_2 E8_3
              replace hX := hX.trans E8_3
              replace hS : Ext w7 w8_3 ∧ Same (fun b : Nat => b = b4_2 ∨ False) wd8 w8_3 := ⟨hX, fun b hb => Or.elim hb (fun q => by subst q; exact Blk.eq B4_2 DB4_2) (fun hb => hb.elim)⟩
              refine ⟨hS, ?_⟩
              refine A_ready1 (i := 10) (by kernel_rfl) ?_
              refine O_newS rfl rfl (r_buildSlice (vs := [.string _, .string _]) Tryd.underlying49 Tryd.sz9 Tryd.zero9 rfl rfl rfl) ?_
              intro w8_10 b8_10 E8_10 B8_10 L8_10
              have hG8_10 : w7.heap.size ≤ b8_10 := by have := hX.size; omega
              have hNb4_2_8_10 : b4_2 ≠ b8_10 := by have := Blk.lt B4_2; omega
              replace B4_2 := Blk.ext B4_2 E8_10
              have hNb8_3_8_10 : b8_3 ≠ b8_10 := by have := Blk.lt B8_3; omega
              replace B8_3 := Blk.ext B8_3 E8_10
              replace hX := hX.trans E8_10
              replace hS : Ext w7 w8_10 ∧ Same (fun b : Nat => b = b4_2 ∨ False) wd8 w8_10 := ⟨hX, fun b hb => Or.elim hb (fun q => by subst q; exact Blk.eq B4_2 DB4_2) (fun hb => hb.elim)⟩
              refine ⟨hS, ?_⟩
              refine A_take (i := 12) rfl (by kernel_rfl) (by kernel_rfl) (by kernel_rfl) rfl hS (fun _ hw => r_sliceHi (j := textsK l[i].k) rfl rfl Tryd.underlying49 Tryd.sz9 (texts_le _)) ?_
              refine A_ready1 (i := 13) (by kernel_rfl) ?_
              have hgl : l[i].g.length ≤ 100 := hri.1.2
              have hol := quote_len l[i].o
              have hnl := quote_len l[i].n
              have hwl := word_len l[i].k
              have hrow10 : strT'.Row _ (old _) (some ⟨b8_10, 0, none⟩) [quoteB l[i].o, quoteB l[i].n] := Blk.row B8_10 (Blk.lt B8_10) fun j hj => by
                rcases j with _ | _ | j
                · exact ⟨[sv (quoteB l[i].o)], ⟨rfl, by show (quoteB l[i].o).length ≤ _; omega⟩, fun j hj => by
                    have hj1 : j < 1 := hj
                    obtain rfl : j = 0 := by omega
                    rfl⟩
                · exact ⟨[sv (quoteB l[i].n)], ⟨rfl, by show (quoteB l[i].n).length ≤ _; omega⟩, fun j hj => by
                    have hj1 : j < 1 := hj
                    obtain rfl : j = 0 := by omega
                    rfl⟩
                · simp at hj; omega
              have hrowT := hrow10.take (textsK l[i].k)
              have htl := texts_le l[i].k
              have hlt2 : ([quoteB l[i].o, quoteB l[i].n].take (textsK l[i].k)).length = textsK l[i].k := by rw [List.length_take]; simp; omega
              have hown : Eng.Own strT' _ nobody w7.heap.size 9 (.slice (some ⟨b8_3, 0, none⟩) 2 2) [wordK l[i].k, l[i].g] := Own.of_blk (l := [wordK l[i].k, l[i].g]) hG8_3 B8_3 (by simp) rfl (fun x hx => by
                simp only [List.mem_cons, List.not_mem_nil, or_false] at hx
                rcases hx with rfl | rfl <;> omega) (fun j hj => by
                rcases j with _ | _ | j
                · rfl
                · rfl
                · simp at hj; omega)
              refine O_append (T := strT') (F := nobody) (l := [wordK l[i].k, l[i].g]) (m := [quoteB l[i].o, quoteB l[i].n].take (textsK l[i].k)) (A := some ⟨b8_10, 0, none⟩) (c := 2) rfl rfl rfl (by rw [hlt2]; rfl) Tryd.underlying49 Tryd.sz9 Tryd.by9 Tryd.zero9 rfl hown (hrowT.srcF flat_scalar) (fun _ q => q.elim) (by rw [hlt2]; simp; omega) (by rw [hlt2]; simp; omega) hX.size ?_
              intro v13 w13 hO13 hG13 hv13
              have hX13 : Ext w7 w13 := hX.gro hG13 hX.size (fun k hk => (hown.lt hk).1)
              replace hS : Ext w7 w13 ∧ Same (fun b => b = b4_2 ∨ False) wd8 w13 := ⟨hX13, fun b hb => by
                have h1 := hS.2 b hb
                rw [← h1]
                have hbb : b = b4_2 := by simpa using hb
                rw [hbb]
                exact hG13.block b4_2 (Blk.lt B4_2) (fun q => hNb4_2_8_3 (Option.some.inj q).symm)⟩
              refine ⟨hS, ?_⟩
              refine A_take (i := 14) rfl (by kernel_rfl) (by kernel_rfl) (by kernel_rfl) rfl hS (fun _ hw => r_assignV (v := v13) rfl) ?_
              refine A_done (by kernel_rfl) ?_
              refine ⟨?_, by repeat (first | with_reducible exact Out.refl _ _ | with_reducible exact Out.mix | refine Out.put rfl ?_ | refine Out.mixin rfl ?_ | exact Out.refl _ _ | exact Out.mix)⟩
              exact ⟨_, rfl, hO13, hX13⟩
            · refine O_newS rfl rfl (r_buildSlice (vs := [.string _, .string _]) Tryd.underlying49 Tryd.sz9 Tryd.zero9 rfl rfl rfl) ?_
              intro w8_10 b8_10 E8_10 B8_10 L8_10
              have hG8_10 : w7.heap.size ≤ b8_10 := by have := hX.size; omega
              have hNb4_2_8_10 : b4_2 ≠ b8_10 := by have := Blk.lt B4_2; omega
              replace B4_2 := Blk.ext B4_2 E8_10
              replace hX := hX.trans E8_10
              replace hS : Ext w7 w8_10 ∧ Same (fun b : Nat => b = b4_2 ∨ False) wd8 w8_10 := ⟨hX, fun b hb => Or.elim hb (fun q => by subst q; exact Blk.eq B4_2 DB4_2) (fun hb => hb.elim)⟩
              refine ⟨hS, ?_⟩
              refine A_take (i := 12) rfl (by kernel_rfl) (by kernel_rfl) (by kernel_rfl) rfl hS (fun _ hw => r_sliceHi (j := textsK l[i].k) rfl rfl Tryd.underlying49 Tryd.sz9 (texts_le _)) ?_
              refine A_ready1 (i := 3) (by kernel_rfl) ?_
              refine O_newS rfl rfl (r_buildSlice (vs := [.string _, .string _]) Tryd.underlying49 Tryd.sz9 Tryd.zero9 rfl rfl rfl) ?_
              intro w8_3 b8_3 E8_3 B8_3 L8_3
              have hG8_3 : w7.heap.size ≤ b8_3 := by have := hX.size; omega
              have hNb4_2_8_3 : b4_2 ≠ b8_3 := by have := Blk.lt B4_2; omega
              replace B4_2 := Blk.ext B4_2 E8_3
              have hNb8_10_8_3 : b8_10 ≠ b8_3 := by have := Blk.lt B8_10; omega
              replace B8_10 := Blk.ext B8_10 E8_3
              replace hX := hX.trans E8_3
              replace hS : Ext w7 w8_3 ∧ Same (fun b : Nat => b = b4_2 ∨ False) wd8 w8_3 := ⟨hX, fun b hb => Or.elim hb (fun q => by subst q; exact Blk.eq B4_2 DB4_2) (fun hb => hb.elim)⟩
              refine ⟨hS, ?_⟩
              refine A_ready1 (i := 13) (by kernel_rfl) ?_
              have hgl : l[i].g.length ≤ 100 := hri.1.2
              have hol := quote_len l[i].o
              have hnl := quote_len l[i].n
              have hwl := word_len l[i].k
              have hrow10 : strT'.Row _ (old _) (some ⟨b8_10, 0, none⟩) [quoteB l[i].o, quoteB l[i].n] := Blk.row B8_10 (Blk.lt B8_10) fun j hj => by
                rcases j with _ | _ | j
                · exact ⟨[sv (quoteB l[i].o)], ⟨rfl, by show (quoteB l[i].o).length ≤ _; omega⟩, fun j hj => by
                    have hj1 : j < 1 := hj
                    obtain rfl : j = 0 := by omega
                    rfl⟩
                · exact ⟨[sv (quoteB l[i].n)], ⟨rfl, by show (quoteB l[i].n).length ≤ _; omega⟩, fun j hj => by
                    have hj1 : j < 1 := hj
                    obtain rfl : j = 0 := by omega
                    rfl⟩
                · simp at hj; omega
              have hrowT := hrow10.take (textsK l[i].k)
              have htl := texts_le l[i].k
              have hlt2 : ([quoteB l[i].o, quoteB l[i].n].take (textsK l[i].k)).length = textsK l[i].k := by rw [List.length_take]; simp; omega
              have hown : Eng.Own strT' _ nobody w7.heap.size 9 (.slice (some ⟨b8_3, 0, none⟩) 2 2) [wordK l[i].k, l[i].g] := Own.of_blk (l := [wordK l[i].k, l[i].g]) hG8_3 B8_3 (by simp) rfl (fun x hx => by
                simp only [List.mem_cons, List.not_mem_nil, or_false] at hx
                rcases hx with rfl | rfl <;> omega) (fun j hj => by
                rcases j with _ | _ | j
                · rfl
                · rfl
                · simp at hj; omega)
              refine O_append (T := strT') (F := nobody) (l := [wordK l[i].k, l[i].g]) (m := [quoteB l[i].o, quoteB l[i].n].take (textsK l[i].k)) (A := some ⟨b8_10, 0, none⟩) (c := 2) rfl rfl rfl (by rw [hlt2]; rfl) Tryd.underlying49 Tryd.sz9 Tryd.by9 Tryd.zero9 rfl hown (hrowT.srcF flat_scalar) (fun _ q => q.elim) (by rw [hlt2]; simp; omega) (by rw [hlt2]; simp; omega) hX.size ?_
              intro v13 w13 hO13 hG13 hv13
              have hX13 : Ext w7 w13 := hX.gro hG13 hX.size (fun k hk => (hown.lt hk).1)
              replace hS : Ext w7 w13 ∧ Same (fun b => b = b4_2 ∨ False) wd8 w13 := ⟨hX13, fun b hb => by
                have h1 := hS.2 b hb
                rw [← h1]
                have hbb : b = b4_2 := by simpa using hb
                rw [hbb]
                exact hG13.block b4_2 (Blk.lt B4_2) (fun q => hNb4_2_8_3 (Option.some.inj q).symm)⟩
              refine ⟨hS, ?_⟩
              refine A_take (i := 14) rfl (by kernel_rfl) (by kernel_rfl) (by kernel_rfl) rfl hS (fun _ hw => r_assignV (v := v13) rfl) ?_
              refine A_done (by kernel_rfl) ?_
              refine ⟨?_, by repeat (first | with_reducible exact Out.refl _ _ | with_reducible exact Out.mix | refine Out.put rfl ?_ | refine Out.mixin rfl ?_ | exact Out.refl _ _ | exact Out.mix)⟩
              exact ⟨_, rfl, hO13, hX13⟩
      rintro gregion8 w' hJ
      obtain ⟨v9, h9, hO9, hX9a⟩ := hJ
      clear hX
      have hX := hX9a
      obtain ⟨A9, c9, rfl, hc9, hr9⟩ := own_frow hO9
      have hwl9 := words_len l[i]
      have hll := line_len hri
      refine W_set (i := 9) h9 ?_
      refine W_region ?_
      refine op rfl (r_moveV (v := .slice A9 (wordsR l[i]).length c9) rfl) ?_
      refine opCv rfl (r_call Tryd.func40 Tryd.nm40 rfl) (join_spec hr9 (by omega) hc9 (by omega) (by have : (lineR l[i]).length ≤ 720 := hll; unfold lineR at this; omega)) ?_
      rintro v9a w9a ⟨rfl, hE⟩
      replace hX := hX.trans hE
      refine op rfl (rt_add (a := lineR l[i]) (b := [10]) rfl rfl (by simp; omega)) ?_
      have htx := text_len hall
      have htk : (l.take i).length ≤ l.length := by rw [List.length_take]; omega
      refine opCv rfl (r_call Tryd.func39 Tryd.nm39 rfl) (writeString_spec (m := lineR l[i] ++ [10]) (hBf.ext (hX7.trans hX)) (by simp; omega) (by have := hX'.size; have := hX7.size; have := hX.size; omega)) ?_
      rintro v9c w9c ⟨rfl, hB9, hM9⟩
      have hX9 : Ext w w9c := Mv.buf_ext (hX'.trans (hX7.trans hX)) hM9 hG1_0 (Nat.le_refl _)
      refine WL_nil ?_
      refine W_region ?_
      refine op rfl (r_add' (r := ((i + 1 : Nat) : Int)) rfl rfl (by rw [wrap_i64 (by omega) (by omega)]; omega)) ?_
      refine op rfl (r_moveV (v := .int _ _) rfl) ?_
      refine WL_nil ?_
      refine ⟨?_, by repeat (first | with_reducible exact Out.refl _ _ | with_reducible exact Out.mix | refine Out.put rfl ?_ | refine Out.mixin rfl ?_ | exact Out.refl _ _ | exact Out.mix)⟩
      refine ⟨l.length - (i + 1), by omega, i + 1, rfl, by omega, rfl, by rw [text_take hlt]; exact hB9, fun r h => ?_, hX9⟩
      rw [List.take_succ_eq_append_getElem hlt] at h
      rcases List.mem_append.1 h with h | h
      · exact hall r h
      · rw [List.mem_singleton.1 h]; exact hri
  · obtain rfl : i = l.length := by omega
    rw [List.take_length] at hBf hall
    have htx := text_len hall
    refine W_exit (blk_hit ?_)
    refine W_seq ?_
    refine W_seq ?_
    refine W_region ?_
    refine op rfl (r_moveV (v := .slice _ _ _) rfl) ?_
    refine op rfl (r_len_slice rfl Tryd.underlying23) ?_
    refine op rfl (r_gtr rfl rfl) ?_
    refine WL_nil ?_
    refine W_ifp rfl (fun ht46 => ?_) (fun ht46 => ?_)
    · refine W_seq ?_
      refine W_region ?_
      refine op rfl (r_assignV (v := .string _) rfl) ?_
      refine op rfl (r_assignV (v := .int _ _) rfl) ?_
      refine WL_nil ?_
      refine W_ret (finX_ret ?_)
      refine fin2 ?_
      first
        | (have hp : printR l = ([], 2) := by unfold printR; rw [if_neg (fun q => ht18 (q _ (List.getElem_mem hlt)))]
           exact ⟨_, rfl, by rw [hp]; rfl, hX'.trans hX⟩)
        | (have hp : printR l = ([], 3) := by unfold printR; rw [if_pos hall, if_pos (by omega)]
           exact ⟨_, rfl, by rw [hp]; rfl, hX'.trans hX⟩)
        | (have hp : printR l = (textR l, 0) := by unfold printR; rw [if_pos hall, if_neg (by omega)]
           exact ⟨_, rfl, by rw [hp]; rfl, Mv.buf_ext (hX'.trans hX) hM13 hG1_0 (Nat.le_refl _)⟩)
    · refine W_skip ?_
      refine W_seq ?_
      refine W_region ?_
      refine opCv rfl (r_call Tryd.func37 Tryd.nm37 rfl) (bstring_spec (hBf.ext (Ext.refl _)) (by omega)) ?_
      rintro v13 w13 ⟨rfl, hM13⟩
      refine op rfl (r_assignV (v := .string _) rfl) ?_
      refine op rfl (r_assignV (v := .int _ _) rfl) ?_
      refine WL_nil ?_
      refine W_ret (finX_ret ?_)
      refine fin2 ?_
      first
        | (have hp : printR l = ([], 2) := by unfold printR; rw [if_neg (fun q => ht18 (q _ (List.getElem_mem hlt)))]
           exact ⟨_, rfl, by rw [hp]; rfl, hX'.trans hX⟩)
        | (have hp : printR l = ([], 3) := by unfold printR; rw [if_pos hall, if_pos (by omega)]
           exact ⟨_, rfl, by rw [hp]; rfl, hX'.trans hX⟩)
        | (have hp : printR l = (textR l, 0) := by unfold printR; rw [if_pos hall, if_neg (by omega)]
           exact ⟨_, rfl, by rw [hp]; rfl, Mv.buf_ext (hX'.trans hX) hM13 hG1_0 (Nat.le_refl _)⟩)
end Go.Proofs.YtafcaigjijajnaaDoor
