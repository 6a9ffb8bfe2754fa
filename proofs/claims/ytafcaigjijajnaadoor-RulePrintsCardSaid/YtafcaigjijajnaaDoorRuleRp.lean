/-
  The walk of the reference: rules' text.
-/
import Derived.Test.YtafcaigjijajnaaDoorFacts
import Derived.Test.YtafcaigjijajnaaDoorRulePl
namespace Go.Proofs.YtafcaigjijajnaaDoor
open Go Go.Eng Go.RowKit Go.Proofs
set_option linter.unusedVariables false
set_option linter.unusedSimpArgs false
set_option maxHeartbeats 1000000
set_option maxRecDepth 20000

theorem words_cell {w : World} {b : Nat} {k : Int} (hB : Blk w b (wordsL.map fun s => Value.string (str s)).toArray 9) (hk : 1 ≤ k ∧ k ≤ 5) : w.cell? ⟨b, 0 + k.toNat, none⟩ = some (sv (wordK k)) := by
  have : k = 1 ∨ k = 2 ∨ k = 3 ∨ k = 4 ∨ k = 5 := by omega
  rcases this with rfl | rfl | rfl | rfl | rfl <;> exact Blk.cell hB rfl
theorem refPrint_spec {A : Option Addr} {c : Nat} {l : List Ru} {w : World} {G : Nat → Prop} (hrow : ruT.Row w G A l) (hl : l.length ≤ 1000) (hb : ∀ r ∈ l, r.g.length ≤ 1099511627776 ∧ r.o.length ≤ 1099511627776 ∧ r.n.length ≤ 1099511627776) :
    Calls Tryd.prog 23 #[.slice A l.length c] w (fun en w' => ∃ v, en = .returned v ∧ v = .tuple #[sv (printR l).1, .int .i64 (printR l).2] ∧ Ext w w') := by
  have hat := ru_at hrow
  refine calls' (n := 70) (rs := #[.tmp 2, .tmp 3]) (l := [.slice A l.length c]) Tryd.func23 rfl rfl rfl rfl rfl ?_
  have hX := Ext.refl w
  refine W_seq ?_
  refine W_region ?_
  refine op rfl (r_assignV (v := .string _) rfl) ?_
  refine op rfl (r_assignV (v := .int _ _) rfl) ?_
  refine WL_nil ?_
  refine W_seq ?_
  refine W_region ?_
  refine op rfl (r_assignV (v := .string _) rfl) ?_
  refine WL_nil ?_
  refine W_seq ?_
  refine W_seq ?_
  refine W_region ?_
  refine op rfl (r_assignV (v := .int _ _) rfl) ?_
  refine WL_nil ?_
  refine W_block ?_
  refine W_loop (2 :: 3 :: 4 :: 5 :: 6 :: 7 :: 8 :: 9 :: 10 :: 11 :: 12 :: 13 :: 14 :: 15 :: 16 :: 17 :: 18 :: 19 :: 20 :: 21 :: 22 :: 23 :: 24 :: 25 :: 26 :: 27 :: 28 :: 29 :: 30 :: 31 :: 32 :: 33 :: 34 :: 35 :: 36 :: 37 :: 38 :: 39 :: 40 :: 41 :: 42 :: 43 :: 44 :: 45 :: 46 :: 47 :: 48 :: 49 :: 50 :: 51 :: 52 :: 53 :: 54 :: 55 :: 56 :: 57 :: 58 :: 59 :: 60 :: 61 :: 62 :: 63 :: 64 :: 65 :: []) (fun q e' w' => ∃ i : Nat, q = l.length - i ∧ i ≤ l.length ∧ e' 5 = .int .i64 i ∧ e' 4 = sv (textR (l.take i)) ∧ (∀ r ∈ l.take i, ruR r) ∧ Ext w w') (l.length) ?_ ?_
  · exact ⟨0, by omega, by omega, rfl, rfl, fun r h => by simp at h, hX⟩
  intro k g w' hI
  obtain ⟨i, hq, hi, h5, h4, hall, hX'⟩ := hI
  clear hX
  have hX := hX'
  have htx := text_len hall
  have htk : (l.take i).length ≤ l.length := by rw [List.length_take]; omega
  refine W_set (i := 5) h5 ?_
  refine W_set (i := 4) h4 ?_
  refine W_seq ?_
  refine W_seq ?_
  refine W_region ?_
  refine op rfl (r_moveV (v := .int _ _) rfl) ?_
  refine op rfl (r_moveV (v := .slice _ _ _) rfl) ?_
  refine op rfl (r_len_slice rfl Tryd.underlying23) ?_
  refine op rfl (r_lss rfl rfl) ?_
  refine WL_nil ?_
  refine W_ifp rfl (fun ht10 => ?_) (fun ht10 => ?_)
  · have hlt : i < l.length := by omega
    obtain ⟨g1, o1, hA, _, hk, hg, ho, hn, hc⟩ := hat i hlt
    obtain ⟨hg2, ho2, hn2⟩ := hb _ (List.getElem_mem hlt)
    refine W_skip ?_
    refine W_seq ?_
    refine W_block ?_
    refine W_seq ?_
    refine W_seq ?_
    refine W_region ?_
    refine op rfl (r_moveV (v := .slice _ _ _) rfl) ?_
    refine op rfl (r_moveV (v := .int _ _) rfl) ?_
    refine op rfl (r_indexAddrK (i := i) (by rw [← hA]; rfl) rfl Tryd.underlying23 Tryd.sz35 hlt) ?_
    refine op rfl (r_load_agg (cs := l[i].vals) rfl Tryd.underlying35 rfl Tryd.sz35 rfl (ext_row hX rfl hc)) ?_
    refine opCv rfl (r_call Tryd.func25 Tryd.nm25 rfl) (refRight_spec l[i] _ hg2 ho2 hn2) ?_
    rintro v5 w5 ⟨rfl, hE⟩
    replace hX := hX.trans hE
    refine op rfl (r_notP rfl) ?_
    refine WL_nil ?_
    refine W_ifp rfl (fun ht18 => ?_) (fun ht18 => ?_)
    · refine W_seq ?_
      refine W_region ?_
      refine op rfl (r_assignV (v := .string _) rfl) ?_
      refine op rfl (r_assignV (v := .int _ _) rfl) ?_
      refine WL_nil ?_
      refine W_ret (blk_ret (blk_ret (finX_ret ?_)))
      refine fin2 ?_
      first
        | (have hp : printR l = ([], 2) := by unfold printR; rw [if_neg (fun q => ht18 (q _ (List.getElem_mem hlt)))]
           exact ⟨_, rfl, by rw [hp]; rfl, hX⟩)
        | (have hp : printR l = ([], 3) := by unfold printR; rw [if_pos hall, if_pos (by omega)]
           exact ⟨_, rfl, by rw [hp]; rfl, hX⟩)
        | (have hp : printR l = (textR l, 0) := by unfold printR; rw [if_pos hall, if_neg (by omega)]
           exact ⟨_, rfl, by rw [hp]; show Value.tuple #[sv (textR (l.take l.length)), .int .i64 0] = _; rw [List.take_length], hX⟩)
    · have hri : ruR l[i] := Classical.not_not.1 ht18
      have hkr := kind_range hri.2.2.2
      have hgl : l[i].g.length ≤ 100 := hri.1.2
      have hol := quote_len l[i].o
      have hnl := quote_len l[i].n
      have hol2 := hri.2.1
      have hnl2 := hri.2.2.1
      have hwl := word_len l[i].k
      refine W_skip ?_
      refine W_seq ?_
      refine W_region ?_
      refine op rfl (r_moveV (v := .slice _ _ _) rfl) ?_
      refine op rfl (r_moveV (v := .int _ _) rfl) ?_
      refine op rfl (r_indexAddrK (i := i) (by rw [← hA]; rfl) rfl Tryd.underlying23 Tryd.sz35 hlt) ?_
      refine op rfl (r_fieldAddr rfl Tryd.fld35_0 rfl) ?_
      refine op rfl (r_load (v := .int .i64 l[i].k) rfl Tryd.underlying3 rfl (ext_cell hX (hc 0 (by decide)))) ?_
      refine opCv rfl (r_call Tryd.func41 Tryd.nm41 rfl) (refTexts_spec l[i].k _ (by omega)) ?_
      rintro v7 w7 ⟨rfl, hE⟩
      replace hX := hX.trans hE
      refine op rfl (r_assignV (v := .int _ _) rfl) ?_
      refine WL_nil ?_
      refine W_seq ?_
      refine W_drawF (W0 := w) (fun b : Nat => False) Tryd.wd rfl ?_
      intro wd8 hD
      replace hX := hX.trans hD
      have hS : Ext w wd8 ∧ Same (fun b : Nat => False) wd8 wd8 := ⟨hX, fun _ _ => rfl⟩
      refine A_take (i := 0) rfl (by kernel_rfl) (by kernel_rfl) (by kernel_rfl) rfl hS (fun _ hw => r_moveV (v := sv (textR (l.take i))) rfl) ?_
      refine A_take (i := 2) rfl (by kernel_rfl) (by kernel_rfl) (by kernel_rfl) rfl hS (fun _ hw => r_moveV (v := .slice _ _ _) rfl) ?_
      refine A_take (i := 3) rfl (by kernel_rfl) (by kernel_rfl) (by kernel_rfl) rfl hS (fun _ hw => r_moveV (v := .int _ _) rfl) ?_
      refine A_take (i := 4) rfl (by kernel_rfl) (by kernel_rfl) (by kernel_rfl) rfl hS (fun _ hw => r_indexAddrK (i := i) (by rw [← hA]; rfl) rfl Tryd.underlying23 Tryd.sz35 hlt) ?_
      refine A_take (i := 5) rfl (by kernel_rfl) (by kernel_rfl) (by kernel_rfl) rfl hS (fun _ hw => r_fieldAddr rfl Tryd.fld35_0 rfl) ?_
      refine A_take (i := 6) rfl (by kernel_rfl) (by kernel_rfl) (by kernel_rfl) rfl hS (fun _ hw => r_load (v := .int .i64 l[i].k) rfl Tryd.underlying3 rfl (ext_cell hw.1 (hc 0 (by decide)))) ?_
      refine A_take (i := 11) rfl (by kernel_rfl) (by kernel_rfl) (by kernel_rfl) rfl hS (fun _ hw => r_moveV (v := .slice _ _ _) rfl) ?_
      refine A_take (i := 12) rfl (by kernel_rfl) (by kernel_rfl) (by kernel_rfl) rfl hS (fun _ hw => r_moveV (v := .int _ _) rfl) ?_
      refine A_take (i := 13) rfl (by kernel_rfl) (by kernel_rfl) (by kernel_rfl) rfl hS (fun _ hw => r_indexAddrK (i := i) (by rw [← hA]; rfl) rfl Tryd.underlying23 Tryd.sz35 hlt) ?_
      refine A_take (i := 14) rfl (by kernel_rfl) (by kernel_rfl) (by kernel_rfl) rfl hS (fun _ hw => r_fieldAddr rfl Tryd.fld35_1 rfl) ?_
      refine A_take (i := 15) rfl (by kernel_rfl) (by kernel_rfl) (by kernel_rfl) rfl hS (fun _ hw => r_load (v := sv l[i].g) rfl Tryd.underlying9 rfl (ext_cell hw.1 (hc 1 (by decide)))) ?_
      refine A_ready1 (i := 1) (by kernel_rfl) ?_
      refine O_call rfl rfl (r_call Tryd.func42 Tryd.nm42 rfl) (refWords_spec _) ?_
      rintro v8 w8 ⟨bw, rfl, Bw, hbw, hE⟩
      replace hX := hX.trans hE
      replace hS : Ext w w8 ∧ Same (fun b : Nat => False) wd8 w8 := ⟨hX, fun b hb => hb.elim⟩
      refine ⟨hS, ?_⟩
      refine A_take (i := 7) rfl (by kernel_rfl) (by kernel_rfl) (by kernel_rfl) rfl hS (fun _ hw => r_indexAddr1 rfl rfl rfl Tryd.underlying49 Tryd.sz9 (by omega) (by omega)) ?_
      refine A_ready1 (i := 8) (by kernel_rfl) ?_
      refine O_val rfl rfl (r_load (v := sv (wordK l[i].k)) rfl Tryd.underlying9 rfl (words_cell Bw hkr)) (hS) ?_
      refine A_take (i := 9) rfl (by kernel_rfl) (by kernel_rfl) (by kernel_rfl) rfl hS (fun _ hw => rt_add (a := textR (l.take i)) (b := wordK l[i].k) rfl rfl (by omega)) ?_
      refine A_take (i := 10) rfl (by kernel_rfl) (by kernel_rfl) (by kernel_rfl) rfl hS (fun _ hw => rt_add (a := textR (l.take i) ++ wordK l[i].k) (b := [32]) rfl rfl (by simp only [List.length_append, List.length_singleton]; omega)) ?_
      refine A_take (i := 16) rfl (by kernel_rfl) (by kernel_rfl) (by kernel_rfl) rfl hS (fun _ hw => rt_add (a := (textR (l.take i) ++ wordK l[i].k) ++ [32]) (b := l[i].g) rfl rfl (by simp only [List.length_append, List.length_singleton]; omega)) ?_
      refine A_take (i := 17) rfl (by kernel_rfl) (by kernel_rfl) (by kernel_rfl) rfl hS (fun _ hw => r_assignV (v := .string _) rfl) ?_
      refine A_done (by kernel_rfl) ?_
      refine W_cut [4, 42, 43, 44, 45, 46, 47, 48, 49, 50, 51, 52] (fun e' w' => ∃ p : List UInt8, e' 4 = sv ((((textR (l.take i) ++ wordK l[i].k) ++ [32]) ++ l[i].g) ++ p) ∧ p = (if 0 < textsK l[i].k then [32] ++ quoteB l[i].o else []) ∧ Ext w w') ?_ ?_
      · refine W_seq ?_
        refine W_region ?_
        refine op rfl (r_moveV (v := .int _ _) rfl) ?_
        refine op rfl (r_gtr rfl rfl) ?_
        refine WL_nil ?_
        refine W_ifp rfl (fun ht43 => ?_) (fun ht43 => ?_)
        · refine W_region ?_
          refine op rfl (r_moveV (v := .string _) rfl) ?_
          refine op rfl (rt_add (a := ((textR (l.take i) ++ wordK l[i].k) ++ [32]) ++ l[i].g) (b := [32]) rfl rfl (by simp only [List.length_append, List.length_singleton]; omega)) ?_
          refine op rfl (r_moveV (v := .slice _ _ _) rfl) ?_
          refine op rfl (r_moveV (v := .int _ _) rfl) ?_
          refine op rfl (r_indexAddrK (i := i) (by rw [← hA]; rfl) rfl Tryd.underlying23 Tryd.sz35 hlt) ?_
          refine op rfl (r_fieldAddr rfl Tryd.fld35_2 rfl) ?_
          refine op rfl (r_load (v := sv l[i].o) rfl Tryd.underlying9 rfl (ext_cell hX (hc 2 (by decide)))) ?_
          refine opCv rfl (r_call Tryd.func18 Tryd.nm18 rfl) (refQuote_spec l[i].o _ ho2) ?_
          rintro v10 w10 ⟨rfl, hE⟩
          replace hX := hX.trans hE
          refine op rfl (rt_add (a := (((textR (l.take i) ++ wordK l[i].k) ++ [32]) ++ l[i].g) ++ [32]) (b := quoteB l[i].o) rfl rfl (by simp only [List.length_append, List.length_singleton]; omega)) ?_
          refine op rfl (r_assignV (v := .string _) rfl) ?_
          refine WL_nil ?_
          refine ⟨?_, by repeat (first | with_reducible exact Out.refl _ _ | with_reducible exact Out.mix | refine Out.put rfl ?_ | refine Out.mixin rfl ?_ | exact Out.refl _ _ | exact Out.mix)⟩
          first
            | exact ⟨[32] ++ quoteB l[i].o, by show sv (((((textR (l.take i) ++ wordK l[i].k) ++ [32]) ++ l[i].g) ++ [32]) ++ quoteB l[i].o) = _; rw [List.append_assoc (((textR (l.take i) ++ wordK l[i].k) ++ [32]) ++ l[i].g)], by rw [if_pos (by omega)], hX⟩
            | exact ⟨[], by rw [List.append_nil]; rfl, by rw [if_neg (by omega)], hX⟩
        · refine W_skip ?_
          refine ⟨?_, by repeat (first | with_reducible exact Out.refl _ _ | with_reducible exact Out.mix | refine Out.put rfl ?_ | refine Out.mixin rfl ?_ | exact Out.refl _ _ | exact Out.mix)⟩
          first
            | exact ⟨[32] ++ quoteB l[i].o, by show sv (((((textR (l.take i) ++ wordK l[i].k) ++ [32]) ++ l[i].g) ++ [32]) ++ quoteB l[i].o) = _; rw [List.append_assoc (((textR (l.take i) ++ wordK l[i].k) ++ [32]) ++ l[i].g)], by rw [if_pos (by omega)], hX⟩
            | exact ⟨[], by rw [List.append_nil]; rfl, by rw [if_neg (by omega)], hX⟩
      rintro gift43 w' hJ
      obtain ⟨p, h4b, hp, hXp⟩ := hJ
      clear hX
      have hX := hXp
      have hpl : p.length ≤ 400 := by
        rw [hp]; split
        · simp only [List.length_append, List.length_singleton]; omega
        · simp
      refine W_set (i := 4) h4b ?_
      refine W_cut [4, 53, 54, 55, 56, 57, 58, 59, 60, 61, 62, 63] (fun e' w' => ∃ p2 : List UInt8, e' 4 = sv (((((textR (l.take i) ++ wordK l[i].k) ++ [32]) ++ l[i].g) ++ p) ++ p2) ∧ p2 = (if 1 < textsK l[i].k then [32] ++ quoteB l[i].n else []) ∧ Ext w w') ?_ ?_
      · refine W_seq ?_
        refine W_region ?_
        refine op rfl (r_moveV (v := .int _ _) rfl) ?_
        refine op rfl (r_gtr rfl rfl) ?_
        refine WL_nil ?_
        refine W_ifp rfl (fun ht54 => ?_) (fun ht54 => ?_)
        · refine W_region ?_
          refine op rfl (r_moveV (v := .string _) rfl) ?_
          refine op rfl (rt_add (a := (((textR (l.take i) ++ wordK l[i].k) ++ [32]) ++ l[i].g) ++ p) (b := [32]) rfl rfl (by simp only [List.length_append, List.length_singleton]; omega)) ?_
          refine op rfl (r_moveV (v := .slice _ _ _) rfl) ?_
          refine op rfl (r_moveV (v := .int _ _) rfl) ?_
          refine op rfl (r_indexAddrK (i := i) (by rw [← hA]; rfl) rfl Tryd.underlying23 Tryd.sz35 hlt) ?_
          refine op rfl (r_fieldAddr rfl Tryd.fld35_3 rfl) ?_
          refine op rfl (r_load (v := sv l[i].n) rfl Tryd.underlying9 rfl (ext_cell hX (hc 3 (by decide)))) ?_
          refine opCv rfl (r_call Tryd.func18 Tryd.nm18 rfl) (refQuote_spec l[i].n _ hn2) ?_
          rintro v12 w12 ⟨rfl, hE⟩
          replace hX := hX.trans hE
          refine op rfl (rt_add (a := ((((textR (l.take i) ++ wordK l[i].k) ++ [32]) ++ l[i].g) ++ p) ++ [32]) (b := quoteB l[i].n) rfl rfl (by simp only [List.length_append, List.length_singleton]; omega)) ?_
          refine op rfl (r_assignV (v := .string _) rfl) ?_
          refine WL_nil ?_
          refine ⟨?_, by repeat (first | with_reducible exact Out.refl _ _ | with_reducible exact Out.mix | refine Out.put rfl ?_ | refine Out.mixin rfl ?_ | exact Out.refl _ _ | exact Out.mix)⟩
          first
            | exact ⟨[32] ++ quoteB l[i].n, by show sv ((((((textR (l.take i) ++ wordK l[i].k) ++ [32]) ++ l[i].g) ++ p) ++ [32]) ++ quoteB l[i].n) = _; rw [List.append_assoc ((((textR (l.take i) ++ wordK l[i].k) ++ [32]) ++ l[i].g) ++ p)], by rw [if_pos (by omega)], hX⟩
            | exact ⟨[], by rw [List.append_nil]; rfl, by rw [if_neg (by omega)], hX⟩
        · refine W_skip ?_
          refine ⟨?_, by repeat (first | with_reducible exact Out.refl _ _ | with_reducible exact Out.mix | refine Out.put rfl ?_ | refine Out.mixin rfl ?_ | exact Out.refl _ _ | exact Out.mix)⟩
          first
            | exact ⟨[32] ++ quoteB l[i].n, by show sv ((((((textR (l.take i) ++ wordK l[i].k) ++ [32]) ++ l[i].g) ++ p) ++ [32]) ++ quoteB l[i].n) = _; rw [List.append_assoc ((((textR (l.take i) ++ wordK l[i].k) ++ [32]) ++ l[i].g) ++ p)], by rw [if_pos (by omega)], hX⟩
            | exact ⟨[], by rw [List.append_nil]; rfl, by rw [if_neg (by omega)], hX⟩
      rintro gift54 w' hJ
      obtain ⟨p2, h4c, hp2, hXp⟩ := hJ
      clear hX
      have hX := hXp
      have hpl2 : p2.length ≤ 400 := by
        rw [hp2]; split
        · simp only [List.length_append, List.length_singleton]; omega
        · simp
      refine W_set (i := 4) h4c ?_
      refine W_region ?_
      refine op rfl (r_moveV (v := .string _) rfl) ?_
      refine op rfl (rt_add (a := ((((textR (l.take i) ++ wordK l[i].k) ++ [32]) ++ l[i].g) ++ p) ++ p2) (b := [10]) rfl rfl (by simp only [List.length_append, List.length_singleton]; omega)) ?_
      refine op rfl (r_assignV (v := .string _) rfl) ?_
      refine WL_nil ?_
      refine W_region ?_
      refine op rfl (r_moveV (v := .int _ _) rfl) ?_
      refine op rfl (r_add' (r := ((i + 1 : Nat) : Int)) rfl rfl (by rw [wrap_i64 (by omega) (by omega)]; omega)) ?_
      refine op rfl (r_assignV (v := .int _ _) rfl) ?_
      refine WL_nil ?_
      refine ⟨?_, by repeat (first | with_reducible exact Out.refl _ _ | with_reducible exact Out.mix | refine Out.put rfl ?_ | refine Out.mixin rfl ?_ | exact Out.refl _ _ | exact Out.mix)⟩
      refine ⟨l.length - (i + 1), by omega, i + 1, rfl, by omega, rfl, ?_, fun r h => ?_, hX⟩
      · rw [text_take hlt, line_eq]
        show sv ((((((textR (l.take i) ++ wordK l[i].k) ++ [32]) ++ l[i].g) ++ p) ++ p2) ++ [10]) = _
        rw [hp, hp2]
        simp
      · rw [List.take_succ_eq_append_getElem hlt] at h
        rcases List.mem_append.1 h with h | h
        · exact hall r h
        · rw [List.mem_singleton.1 h]; exact hri
  · obtain rfl : i = l.length := by omega
    rw [List.take_length] at hall
    refine W_exit (blk_hit ?_)
    refine W_seq ?_
    refine W_seq ?_
    refine W_region ?_
    refine op rfl (r_moveV (v := .slice _ _ _) rfl) ?_
    refine op rfl (r_len_slice rfl Tryd.underlying23) ?_
    refine op rfl (r_gtr rfl rfl) ?_
    refine WL_nil ?_
    refine W_ifp rfl (fun ht68 => ?_) (fun ht68 => ?_)
    · refine W_seq ?_
      refine W_region ?_
      refine op rfl (r_assignV (v := .string _) rfl) ?_
      refine op rfl (r_assignV (v := .int _ _) rfl) ?_
      refine WL_nil ?_
      refine W_ret (finX_ret ?_)
      refine fin2 ?_
      first
        | (have hp : printR l = ([], 2) := by unfold printR; rw [if_neg (fun q => ht18 (q _ (List.getElem_mem hlt)))]
           exact ⟨_, rfl, by rw [hp]; rfl, hX⟩)
        | (have hp : printR l = ([], 3) := by unfold printR; rw [if_pos hall, if_pos (by omega)]
           exact ⟨_, rfl, by rw [hp]; rfl, hX⟩)
        | (have hp : printR l = (textR l, 0) := by unfold printR; rw [if_pos hall, if_neg (by omega)]
           exact ⟨_, rfl, by rw [hp]; show Value.tuple #[sv (textR (l.take l.length)), .int .i64 0] = _; rw [List.take_length], hX⟩)
    · refine W_skip ?_
      refine W_seq ?_
      refine W_region ?_
      refine op rfl (r_moveV (v := .string _) rfl) ?_
      refine op rfl (r_assignV (v := .string _) rfl) ?_
      refine op rfl (r_assignV (v := .int _ _) rfl) ?_
      refine WL_nil ?_
      refine W_ret (finX_ret ?_)
      refine fin2 ?_
      first
        | (have hp : printR l = ([], 2) := by unfold printR; rw [if_neg (fun q => ht18 (q _ (List.getElem_mem hlt)))]
           exact ⟨_, rfl, by rw [hp]; rfl, hX⟩)
        | (have hp : printR l = ([], 3) := by unfold printR; rw [if_pos hall, if_pos (by omega)]
           exact ⟨_, rfl, by rw [hp]; rfl, hX⟩)
        | (have hp : printR l = (textR l, 0) := by unfold printR; rw [if_pos hall, if_neg (by omega)]
           exact ⟨_, rfl, by rw [hp]; show Value.tuple #[sv (textR (l.take l.length)), .int .i64 0] = _; rw [List.take_length], hX⟩)
end Go.Proofs.YtafcaigjijajnaaDoor
