/-
  The walk of a law of chapter 04, but for its row.
-/
import Derived.Test.YthclaoblbhnmnaaFacts
import Derived.Test.YthclaoblbhnmnaaLazy
import Derived.Test.YthclaoblbhnmnaaCrcL
namespace Go.Proofs.Ythclaoblbhnmnaa
open Go Go.Eng Go.RowKit Go.Proofs
set_option linter.unusedVariables false


theorem zip_take (a b : List UInt8) (f : UInt8 → UInt8 → UInt8) (i : Nat) (h1 : i < a.length) (h2 : i < b.length) : List.zipWith f (a.take (i + 1)) (b.take (i + 1)) = List.zipWith f (a.take i) (b.take i) ++ [f a[i] b[i]] := by
  rw [List.take_succ_eq_append_getElem h1, List.take_succ_eq_append_getElem h2, List.zipWith_append (by simp; omega)]
  rfl
def xor3 (a b c : List UInt8) (i : Nat) : List UInt8 := List.zipWith (· ^^^ ·) (List.zipWith (· ^^^ ·) (a.take i) (b.take i)) (c.take i)
theorem xor3_len (a b c : List UInt8) (i : Nat) (h1 : i ≤ a.length) (h2 : i ≤ b.length) (h3 : i ≤ c.length) : (xor3 a b c i).length = i := by simp [xor3]; omega
theorem xor3_succ (a b c : List UInt8) (i : Nat) (h1 : i < a.length) (h2 : i < b.length) (h3 : i < c.length) : xor3 a b c (i + 1) = xor3 a b c i ++ [a[i] ^^^ b[i] ^^^ c[i]] := by
  unfold xor3
  rw [zip_take a b _ i h1 h2, List.take_succ_eq_append_getElem h3, List.zipWith_append (by simp; omega)]
  rfl

theorem crcXor_walk (W : World) (A1 : Option Addr) (c1 : Nat) (a : List UInt8) (ha : a.length ≤ c1) (ha' : a.length ≤ big) (hA : Ty.byte.Row W (old W) A1 a) (A2 : Option Addr) (c2 : Nat) (b : List UInt8) (hb : b.length ≤ c2) (hb' : b.length ≤ big) (hB : Ty.byte.Row W (old W) A2 b)
    (A3 : Option Addr) (c3 : Nat) (c : List UInt8) (hc : c.length ≤ c3) (hc' : c.length ≤ big) (hC : Ty.byte.Row W (old W) A3 c) :
    Calls Try.prog 6 #[.slice A1 a.length c1, .slice A2 b.length c2, .slice A3 c.length c3] W (fun en w' => ∃ v, en = .returned v ∧ v = .bool true ∧ Ext W w') := by
  have hba := ha'
  have hbb := hb'
  have hbc := hc'
  unfold big at ha' hb' hc'
  obtain ⟨n, hn, hna, hnb, hnc⟩ : ∃ n, min (min a.length b.length) c.length = n ∧ n ≤ a.length ∧ n ≤ b.length ∧ n ≤ c.length := ⟨_, rfl, by omega, by omega, by omega⟩
  have la : (a.take n).length = n := by simp; omega
  have lb : (b.take n).length = n := by simp; omega
  have lc : (c.take n).length = n := by simp; omega
  refine calls' (n := 66) (rs := #[.tmp 6]) (l := [.slice A1 a.length c1, .slice A2 b.length c2, .slice A3 c.length c3]) Try.func6 rfl rfl rfl rfl ?_
  refine W_seq ?_
  refine W_region ?_
  refine op rfl (r_assignV (v := .bool _) rfl) ?_
  refine WL_nil ?_
  refine W_seq ?_
  refine W_region ?_
  refine op rfl (r_moveV (v := .slice _ _ _) rfl) ?_
  refine op rfl (r_len_slice rfl Try.underlying24) ?_
  refine op rfl (r_moveV (v := .slice _ _ _) rfl) ?_
  refine op rfl (r_len_slice rfl Try.underlying24) ?_
  refine op rfl (r_moveV (v := .slice _ _ _) rfl) ?_
  refine op rfl (r_len_slice rfl Try.underlying24) ?_
  refine op rfl (by rw [r_min3n (a := a.length) (b := b.length) (c := c.length) rfl rfl rfl, hn]) ?_
  refine op rfl (r_assignV (v := .int _ _) rfl) ?_
  refine WL_nil ?_
  refine W_seq ?_
  refine W_seq ?_
  refine W_region ?_
  refine op rfl (r_moveV (v := .int _ _) rfl) ?_
  refine op rfl (r_gtr rfl rfl) ?_
  refine WL_nil ?_
  refine W_ifp rfl (fun ht18 => ?_) (fun ht18 => ?_)
  · refine W_seq ?_
    refine W_region ?_
    refine opCv rfl (r_call Try.func9 Try.nm9 rfl) (known_spec _) ?_
    rintro v w2 ⟨rfl, hE⟩
    refine op rfl (r_assignV (v := .bool _) rfl) ?_
    refine WL_nil ?_
    refine W_ret (finX_ret ?_)
    refine fin1 ?_
    exact ⟨_, rfl, rfl, hE⟩
  · refine W_skip ?_
    refine W_seq ?_
    refine W_region ?_
    refine op rfl (r_assignV (v := .slice _ _ _) rfl) ?_
    refine WL_nil ?_
    refine W_seq ?_
    refine W_seq ?_
    refine W_region ?_
    refine op rfl (r_assignV (v := .int _ _) rfl) ?_
    refine WL_nil ?_
    refine W_block ?_
    refine W_loop [8, 9, 20, 21, 22, 23, 24, 25, 26, 27, 28, 29, 30, 31, 32, 33, 34, 35, 36, 37, 38, 39, 40, 41] (fun j g w' => ∃ (i : Nat) (v : Value), g 9 = .int .i64 i ∧ i ≤ n ∧ j = n - i ∧ g 8 = v ∧ Ext W w' ∧ Own Ty.byte w' (old W) W.heap.size 5 v (xor3 a b c i)) (n) ?_ ?_
    · exact ⟨0, .slice none 0 0, rfl, by omega, by omega, rfl, Ext.refl _, by simp [xor3]; exact Own.nil⟩
    intro k g w' hI
    obtain ⟨i, v, h9, hi, rfl, h8, HE, hO⟩ := hI
    refine W_set (i := 9) h9 ?_
    refine W_set (i := 8) h8 ?_
    refine W_seq ?_
    refine W_seq ?_
    refine W_region ?_
    refine op rfl (r_moveV (v := .int _ _) rfl) ?_
    refine op rfl (r_moveV (v := .int _ _) rfl) ?_
    refine op rfl (r_lss rfl rfl) ?_
    refine WL_nil ?_
    refine W_ifp rfl (fun ht22 => ?_) (fun ht22 => ?_)
    · replace ht22 : i < n := by omega
      obtain ⟨b1, o1, hAe, _, _, hc1⟩ := hA.cell (i := i) (by omega)
      obtain ⟨b2, o2, hBe, _, _, hc2⟩ := hB.cell (i := i) (by omega)
      obtain ⟨b3, o3, hCe, _, _, hc3⟩ := hC.cell (i := i) (by omega)
      refine W_skip ?_
      refine W_seq ?_
      refine W_block ?_
      refine W_drawS (HE) Try.wd rfl ?_
      intro wd8 hD hS
      refine A_take (i := 0) rfl (by kernel_rfl) (by kernel_rfl) (by kernel_rfl) rfl hS (fun _ hw => r_moveV (v := v) rfl) ?_
      refine A_take (i := 1) rfl (by kernel_rfl) (by kernel_rfl) (by kernel_rfl) rfl hS (fun _ hw => r_moveV (v := .slice _ _ _) rfl) ?_
      refine A_take (i := 2) rfl (by kernel_rfl) (by kernel_rfl) (by kernel_rfl) rfl hS (fun _ hw => r_moveV (v := .int _ _) rfl) ?_
      refine A_take (i := 3) rfl (by kernel_rfl) (by kernel_rfl) (by kernel_rfl) rfl hS (fun _ hw => r_indexAddr1 rfl rfl hAe Try.underlying24 Try.sz5 (by omega) (by omega)) ?_
      refine A_take (i := 4) rfl (by kernel_rfl) (by kernel_rfl) (by kernel_rfl) rfl hS (fun _ hw => r_load rfl Try.underlying5 rfl (ext_cell hw hc1)) ?_
      refine A_take (i := 5) rfl (by kernel_rfl) (by kernel_rfl) (by kernel_rfl) rfl hS (fun _ hw => r_moveV (v := .slice _ _ _) rfl) ?_
      refine A_take (i := 6) rfl (by kernel_rfl) (by kernel_rfl) (by kernel_rfl) rfl hS (fun _ hw => r_moveV (v := .int _ _) rfl) ?_
      refine A_take (i := 7) rfl (by kernel_rfl) (by kernel_rfl) (by kernel_rfl) rfl hS (fun _ hw => r_indexAddr1 rfl rfl hBe Try.underlying24 Try.sz5 (by omega) (by omega)) ?_
      refine A_take (i := 8) rfl (by kernel_rfl) (by kernel_rfl) (by kernel_rfl) rfl hS (fun _ hw => r_load rfl Try.underlying5 rfl (ext_cell hw hc2)) ?_
      refine A_take (i := 9) rfl (by kernel_rfl) (by kernel_rfl) (by kernel_rfl) rfl hS (fun _ hw => r_xor8 (a := a[i].toBitVec) (b := b[i].toBitVec) rfl rfl) ?_
      refine A_take (i := 10) rfl (by kernel_rfl) (by kernel_rfl) (by kernel_rfl) rfl hS (fun _ hw => r_moveV (v := .slice _ _ _) rfl) ?_
      refine A_take (i := 11) rfl (by kernel_rfl) (by kernel_rfl) (by kernel_rfl) rfl hS (fun _ hw => r_moveV (v := .int _ _) rfl) ?_
      refine A_take (i := 12) rfl (by kernel_rfl) (by kernel_rfl) (by kernel_rfl) rfl hS (fun _ hw => r_indexAddr1 rfl rfl hCe Try.underlying24 Try.sz5 (by omega) (by omega)) ?_
      refine A_take (i := 13) rfl (by kernel_rfl) (by kernel_rfl) (by kernel_rfl) rfl hS (fun _ hw => r_load rfl Try.underlying5 rfl (ext_cell hw hc3)) ?_
      refine A_take (i := 14) rfl (by kernel_rfl) (by kernel_rfl) (by kernel_rfl) rfl hS (fun _ hw => r_xor8 (b := c[i].toBitVec) rfl rfl) ?_
      refine A_ready1 (i := 15) (by kernel_rfl) ?_
      refine O_newS rfl rfl (r_buildSlice (vs := [.int _ _]) Try.underlying24 Try.sz5 Try.zero5 rfl rfl rfl) ?_
      intro w8_15 b8_15 E8_15 B8_15 L8_15
      replace hS := hS.trans E8_15
      refine ⟨hS, ?_⟩
      refine A_ready1 (i := 16) (by kernel_rfl) ?_
      have hO2 := (hO.ext hD (fun _ h => Nat.lt_of_lt_of_le h HE.size)).ext E8_15 (fun _ h => Nat.lt_of_lt_of_le h (Nat.le_trans HE.size hD.size))
      have hx3 := xor3_len a b c i (by omega) (by omega) (by omega)
      obtain ⟨v', w', hr, hO', hG, hob⟩ := run_append (ty := 24) (c := 1) (m := [a[i] ^^^ b[i] ^^^ c[i]]) Try.underlying24 Try.sz5 Try.by5 Try.zero5 rfl hO2 (Src.blk (x := a[i] ^^^ b[i] ^^^ c[i]) B8_15 ⟨rfl, trivial⟩) (fun q hq => ⟨Nat.lt_of_lt_of_le hq hS.size, fun h => by have := (hO2.lt h).1; exact absurd hq (by show ¬ q < W.heap.size; omega)⟩) (by rw [hx3]; simp; omega) (by rw [hx3]; simp; omega) hS.size
      replace hS := hS.gro hG hS.size (fun k hk => (hO2.lt hk).1)
      refine O_val rfl rfl (r_append rfl rfl hr) hS ?_
      refine A_take (i := 17) rfl (by kernel_rfl) (by kernel_rfl) (by kernel_rfl) rfl hS (fun _ hw => r_assignV (v := v') rfl) ?_
      refine A_done (by kernel_rfl) ?_
      refine W_region ?_
      refine op rfl (r_moveV (v := .int _ _) rfl) ?_
      refine op rfl (r_add' rfl rfl (wrap_i64 (by omega) (by omega))) ?_
      refine op rfl (r_assignV (v := .int _ _) rfl) ?_
      refine WL_nil ?_
      refine ⟨?_, by repeat (first | exact Out.refl _ _ | exact Out.mix | refine Out.put rfl ?_ | refine Out.mixin rfl ?_)⟩
      exact ⟨n - (i + 1), by omega, i + 1, _, rfl, by omega, rfl, rfl, hS, by rw [xor3_succ a b c i (by omega) (by omega) (by omega)]; exact hO'⟩
    · obtain rfl : i = n := by omega
      obtain ⟨Ad, cd, rfl, hcd, hRd⟩ := hO.old (fun _ h => Nat.lt_of_lt_of_le h HE.size)
      have hx3 := xor3_len a b c i (by omega) (by omega) (by omega)
      have hEq : Crc.sum [xor3 a b c i] = Crc.sum [a.take i] ^^^ Crc.sum [b.take i] ^^^ Crc.sum [c.take i] := by
        simp only [Crc.sum_one]
        exact Crc.more_zip3 _ _ _ _ (by rw [la, lb]) (by rw [lb, lc])
      refine W_exit (blk_hit ?_)
      refine W_seq ?_
      refine W_lazy Try.wd rfl (Ext.refl _) ?_
      intro wd9 hD hS
      refine L_take (i := 0) rfl (by kernel_rfl) (by kernel_rfl) (by kernel_rfl) (by kernel_rfl) (by kernel_rfl) rfl hS (fun _ hw => r_moveV (v := .slice Ad (xor3 a b c i).length cd) rfl) ?_
      refine L_take (i := 3) rfl (by kernel_rfl) (by kernel_rfl) (by kernel_rfl) (by kernel_rfl) (by kernel_rfl) rfl hS (fun _ hw => r_moveV (v := .slice _ _ _) rfl) ?_
      refine L_take (i := 4) rfl (by kernel_rfl) (by kernel_rfl) (by kernel_rfl) (by kernel_rfl) (by kernel_rfl) rfl hS (fun _ hw => r_moveV (v := .int _ _) rfl) ?_
      refine L_take (i := 5) rfl (by kernel_rfl) (by kernel_rfl) (by kernel_rfl) (by kernel_rfl) (by kernel_rfl) rfl hS (fun _ hw => r_sliceHi (j := i) rfl rfl Try.underlying24 Try.sz5 (by omega)) ?_
      refine L_take (i := 8) rfl (by kernel_rfl) (by kernel_rfl) (by kernel_rfl) (by kernel_rfl) (by kernel_rfl) rfl hS (fun _ hw => r_moveV (v := .slice _ _ _) rfl) ?_
      refine L_take (i := 9) rfl (by kernel_rfl) (by kernel_rfl) (by kernel_rfl) (by kernel_rfl) (by kernel_rfl) rfl hS (fun _ hw => r_moveV (v := .int _ _) rfl) ?_
      refine L_take (i := 10) rfl (by kernel_rfl) (by kernel_rfl) (by kernel_rfl) (by kernel_rfl) (by kernel_rfl) rfl hS (fun _ hw => r_sliceHi (j := i) rfl rfl Try.underlying24 Try.sz5 (by omega)) ?_
      refine L_take (i := 14) rfl (by kernel_rfl) (by kernel_rfl) (by kernel_rfl) (by kernel_rfl) (by kernel_rfl) rfl hS (fun _ hw => r_moveV (v := .slice _ _ _) rfl) ?_
      refine L_take (i := 15) rfl (by kernel_rfl) (by kernel_rfl) (by kernel_rfl) (by kernel_rfl) (by kernel_rfl) rfl hS (fun _ hw => r_moveV (v := .int _ _) rfl) ?_
      refine L_take (i := 16) rfl (by kernel_rfl) (by kernel_rfl) (by kernel_rfl) (by kernel_rfl) (by kernel_rfl) rfl hS (fun _ hw => r_sliceHi (j := i) rfl rfl Try.underlying24 Try.sz5 (by omega)) ?_
      refine L_new ⟨17, 59, fun b => .slice (some ⟨b, 0, none⟩) 1 1, .cells #[.slice A3 i c3] 24⟩ ?_
      refine L_new ⟨11, 53, fun b => .slice (some ⟨b, 0, none⟩) 1 1, .cells #[.slice A2 i c2] 24⟩ ?_
      refine L_new ⟨6, 48, fun b => .slice (some ⟨b, 0, none⟩) 1 1, .cells #[.slice A1 i c1] 24⟩ ?_
      refine L_new ⟨1, 43, fun b => .slice (some ⟨b, 0, none⟩) 1 1, .cells #[.slice Ad (xor3 a b c i).length cd] 24⟩ ?_
      refine L_call1 (j := 2) rfl (by kernel_rfl) (by kernel_rfl) (by
            intro p hp
            simp only [List.mem_cons, List.not_mem_nil, or_false] at hp
            rcases hp with rfl | rfl | rfl | rfl
            · exact PdOk.mk' rfl (fun _ _ => r_buildSlice (vs := [.slice _ _ _]) Try.underlying23 Try.sz24 Try.zero24 rfl rfl rfl) rfl (by kernel_rfl) (by kernel_rfl)
            · exact PdOk.mk' rfl (fun _ _ => r_buildSlice (vs := [.slice _ _ _]) Try.underlying23 Try.sz24 Try.zero24 rfl rfl rfl) rfl (by kernel_rfl) (by kernel_rfl)
            · exact PdOk.mk' rfl (fun _ _ => r_buildSlice (vs := [.slice _ _ _]) Try.underlying23 Try.sz24 Try.zero24 rfl rfl rfl) rfl (by kernel_rfl) (by kernel_rfl)
            · exact PdOk.mk' rfl (fun _ _ => r_buildSlice (vs := [.slice _ _ _]) Try.underlying23 Try.sz24 Try.zero24 rfl rfl rfl) rfl (by kernel_rfl) (by kernel_rfl)
          ) rfl (by kernel_rfl) rfl (by kernel_rfl) (by simp) hS rfl rfl (fun bn _ => r_call Try.func12 Try.nm12 rfl) (fun bn w' hw hb => sum_spec _ 1 [xor3 a b c i] _ (by show 1 ≤ 140737488355328; omega) (bytesL_one hb hcd (by rw [hx3]; omega) (hRd.ext (hD.trans hw)))) ?_
      rintro b9_2 v wA wB hEA hB9_2 ⟨rfl, hE⟩
      refine ⟨hE, ?_⟩
      replace hS := (hS.trans hEA).trans hE
      replace hD := (hD.trans hEA).trans hE
      refine L_call1 (j := 7) rfl (by kernel_rfl) (by kernel_rfl) (by
            intro p hp
            simp only [List.mem_cons, List.not_mem_nil, or_false] at hp
            rcases hp with rfl | rfl | rfl
            · exact PdOk.mk' rfl (fun _ _ => r_buildSlice (vs := [.slice _ _ _]) Try.underlying23 Try.sz24 Try.zero24 rfl rfl rfl) rfl (by kernel_rfl) (by kernel_rfl)
            · exact PdOk.mk' rfl (fun _ _ => r_buildSlice (vs := [.slice _ _ _]) Try.underlying23 Try.sz24 Try.zero24 rfl rfl rfl) rfl (by kernel_rfl) (by kernel_rfl)
            · exact PdOk.mk' rfl (fun _ _ => r_buildSlice (vs := [.slice _ _ _]) Try.underlying23 Try.sz24 Try.zero24 rfl rfl rfl) rfl (by kernel_rfl) (by kernel_rfl)
          ) rfl (by kernel_rfl) rfl (by kernel_rfl) (by simp) hS rfl rfl (fun bn _ => r_call Try.func12 Try.nm12 rfl) (fun bn w' hw hb => sum_spec _ 1 [a.take i] _ (by show 1 ≤ 140737488355328; omega) (bytesL_one (c := c1) (by rw [la]; exact hb) (by omega) (by omega) ((hA.ext (HE.trans (hD.trans hw))).take i))) ?_
      rintro b9_7 v wA wB hEA hB9_7 ⟨rfl, hE⟩
      refine ⟨hE, ?_⟩
      replace hS := (hS.trans hEA).trans hE
      replace hD := (hD.trans hEA).trans hE
      refine L_call1 (j := 12) rfl (by kernel_rfl) (by kernel_rfl) (by
            intro p hp
            simp only [List.mem_cons, List.not_mem_nil, or_false] at hp
            rcases hp with rfl | rfl
            · exact PdOk.mk' rfl (fun _ _ => r_buildSlice (vs := [.slice _ _ _]) Try.underlying23 Try.sz24 Try.zero24 rfl rfl rfl) rfl (by kernel_rfl) (by kernel_rfl)
            · exact PdOk.mk' rfl (fun _ _ => r_buildSlice (vs := [.slice _ _ _]) Try.underlying23 Try.sz24 Try.zero24 rfl rfl rfl) rfl (by kernel_rfl) (by kernel_rfl)
          ) rfl (by kernel_rfl) rfl (by kernel_rfl) (by simp) hS rfl rfl (fun bn _ => r_call Try.func12 Try.nm12 rfl) (fun bn w' hw hb => sum_spec _ 1 [b.take i] _ (by show 1 ≤ 140737488355328; omega) (bytesL_one (c := c2) (by rw [lb]; exact hb) (by omega) (by omega) ((hB.ext (HE.trans (hD.trans hw))).take i))) ?_
      rintro b9_12 v wA wB hEA hB9_12 ⟨rfl, hE⟩
      refine ⟨hE, ?_⟩
      replace hS := (hS.trans hEA).trans hE
      replace hD := (hD.trans hEA).trans hE
      refine L_take (i := 13) rfl (by kernel_rfl) (by kernel_rfl) (by kernel_rfl) (by kernel_rfl) (by kernel_rfl) rfl hS (fun _ hw => r_xor32 rfl rfl) ?_
      refine L_call1 (j := 18) rfl (by kernel_rfl) (by kernel_rfl) (by
            intro p hp
            simp only [List.mem_cons, List.not_mem_nil, or_false] at hp
            rcases hp with rfl
            · exact PdOk.mk' rfl (fun _ _ => r_buildSlice (vs := [.slice _ _ _]) Try.underlying23 Try.sz24 Try.zero24 rfl rfl rfl) rfl (by kernel_rfl) (by kernel_rfl)
          ) rfl (by kernel_rfl) rfl (by kernel_rfl) (by simp) hS rfl rfl (fun bn _ => r_call Try.func12 Try.nm12 rfl) (fun bn w' hw hb => sum_spec _ 1 [c.take i] _ (by show 1 ≤ 140737488355328; omega) (bytesL_one (c := c3) (by rw [lc]; exact hb) (by omega) (by omega) ((hC.ext (HE.trans (hD.trans hw))).take i))) ?_
      rintro b9_18 v wA wB hEA hB9_18 ⟨rfl, hE⟩
      refine ⟨hE, ?_⟩
      replace hS := (hS.trans hEA).trans hE
      replace hD := (hD.trans hEA).trans hE
      refine L_exit (k := 6) (by kernel_rfl) ?_
      intro wx9 hX
      replace hS := hS.trans hX
      replace hD := hD.trans hX
      refine A_take (i := 19) rfl (by kernel_rfl) (by kernel_rfl) (by kernel_rfl) rfl hS (fun _ hw => r_xor32 rfl rfl) ?_
      refine A_take (i := 20) rfl (by kernel_rfl) (by kernel_rfl) (by kernel_rfl) rfl hS (fun _ hw => r_eql rfl rfl) ?_
      refine A_true (i := 21) rfl (by kernel_rfl) (by kernel_rfl) (by kernel_rfl) rfl hS (fun _ _ => r_moveV (v := .bool (decide _)) rfl) (by rw [hEq]) ?_
      refine A_ready1 (i := 22) (by kernel_rfl) ?_
      refine O_callG rfl rfl rfl rfl rfl rfl (r_call Try.func9 Try.nm9 rfl) (known_spec _) ?_
      rintro v w6 ⟨rfl, hE⟩
      replace hS := hS.trans hE
      refine ⟨hS, ?_⟩
      refine A_take (i := 23) rfl (by kernel_rfl) (by kernel_rfl) (by kernel_rfl) rfl hS (fun _ hw => r_pickTV (v := .bool _) rfl rfl) ?_
      refine A_take (i := 24) rfl (by kernel_rfl) (by kernel_rfl) (by kernel_rfl) rfl hS (fun _ hw => r_assignV (v := .bool _) rfl) ?_
      refine A_done (by kernel_rfl) ?_
      refine W_ret (finX_ret ?_)
      refine fin1 ?_
      exact ⟨_, rfl, rfl, HE.trans hS⟩
end Go.Proofs.Ythclaoblbhnmnaa
