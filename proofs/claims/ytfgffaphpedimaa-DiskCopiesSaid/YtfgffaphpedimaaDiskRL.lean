/-
  Disks and the chapter's own, beside each other.
-/
import Derived.Test.YtfgffaphpedimaaFacts
import Derived.Test.YtfgffaphpedimaaDiskF
import Derived.Test.YtfgffaphpedimaaDiskRQ
namespace Go.Proofs.Ytfgffaphpedimaa
open Go Go.Eng Go.RowKit Go.Proofs
set_option linter.unusedVariables false
set_option linter.unusedSimpArgs false
set_option maxHeartbeats 2000000

theorem arm_fa {p B : Nat} {F : Nat → Prop} {w : World} {D : Dk} (h : FA p B F w D) (n : Int) :
    Calls Try.prog 21 #[dq p, .int .i64 n] w (fun en w' => ∃ v, en = .returned v ∧ FA p B F w' (D.arm n) ∧ Fo B F w w') := by
  have hle := h.le
  obtain ⟨H, rfl, hR, h3⟩ := h
  refine (arm_spec hR n).mono ?_
  rintro en w' ⟨v, rfl, h2⟩
  exact ⟨v, rfl, h2.fa hR h3 hle⟩
theorem Fo.pre {B : Nat} {F : Nat → Prop} {w w1 w2 : World} (hF : ∀ b, F b → b < w.heap.size) (hB : B ≤ w.heap.size) (he : Ext w w1) (h : Fo B F w1 w2) : Fo B F w w2 :=
  ⟨fun b hb => (h.same b hb).trans (he.block b (hF b hb)), (he.mono hB).trans h.below⟩
theorem Fo.refl {B : Nat} {F : Nat → Prop} (w : World) : Fo B F w w := ⟨fun _ _ => rfl, Below.refl _ _⟩
theorem Fo.ofExt {B : Nat} {F : Nat → Prop} {w w1 : World} (hF : ∀ b, F b → b < w.heap.size) (hB : B ≤ w.heap.size) (he : Ext w w1) : Fo B F w w1 :=
  ⟨fun b hb => he.block b (hF b hb), he.mono hB⟩
theorem FA.lt {p B : Nat} {F : Nat → Prop} {w : World} {D : Dk} (h : FA p B F w D) : ∀ b, F b → b < w.heap.size := by
  obtain ⟨H, _, _, h3⟩ := h
  exact fun b hb => (h3 b hb).1
theorem did_fa {p B : Nat} {F : Nat → Prop} {w : World} {D : Dk} (h : FA p B F w D) {k : Nat} (hw : WF D k) (hk : k ≤ 536870912) (o : Do) (A : Option Addr) (c : Nat) (hbl : o.b.length ≤ 140737488355328) {G : Nat → Prop} (hG : ∀ x, G x → x < B) (hA : Ty.byte.Row w G A o.b) :
    Calls Try.prog 26 #[dq p, .agg #[.int .i64 o.k, .int .i64 o.a, .int .i64 o.n, .slice A o.b.length c]] w (fun en w' => ∃ v, en = .returned v ∧ v = .int .i64 (D.does o).2 ∧ FA p B F w' (D.does o).1 ∧ Fo B F w w') := by
  have hF := h.lt
  have hB := h.le
  refine calls' (n := 41) (rs := #[.tmp 4]) (l := [dq p, .agg #[.int .i64 o.k, .int .i64 o.a, .int .i64 o.n, .slice A o.b.length c]]) Try.func26 rfl rfl rfl rfl rfl ?_
  have hX := Ext.refl w
  refine W_seq ?_
  refine W_region ?_
  refine op_box (v := .agg _) rfl rfl ?_
  intro w0_0 b0_0 E0_0 B0_0 L0_0
  have hG0_0 : w.heap.size ≤ b0_0 := by have := hX.size; omega
  replace hX := hX.trans E0_0
  refine op rfl (r_assignV (v := .int _ _) rfl) ?_
  refine WL_nil ?_
  refine W_seq ?_
  refine W_seq ?_
  refine W_region ?_
  refine op rfl (r_fieldAddr rfl Try.fld51_0 rfl) ?_
  refine op rfl (r_load (v := .int _ _) rfl Try.underlying3 rfl (Blk.cell B0_0 rfl)) ?_
  refine WL_nil ?_
  refine W_block ?_
  refine W_seq ?_
  refine W_region ?_
  refine op rfl (r_eql rfl rfl) ?_
  refine op rfl (r_assignV (v := .bool _) rfl) ?_
  refine WL_nil ?_
  refine W_ifp rfl (fun ht7 => ?_) (fun ht7 => ?_)
  · refine W_seq ?_
    refine W_region ?_
    refine op rfl (r_moveV (v := .pointer _) rfl) ?_
    refine op rfl (r_fieldAddr rfl Try.fld51_1 rfl) ?_
    refine op rfl (r_load (v := .int _ _) rfl Try.underlying3 rfl (Blk.cell B0_0 rfl)) ?_
    refine op rfl (r_fieldAddr rfl Try.fld51_3 rfl) ?_
    refine op rfl (r_load (v := .slice _ _ _) rfl Try.underlying23 rfl (Blk.cell B0_0 rfl)) ?_
    refine opCv rfl (r_call Try.func12 Try.nm12 rfl) (append_fa (h.ext hX) hw hk o.a A c o.b hbl hG (Row.fext hA (fun x hx ↦ Nat.lt_of_lt_of_le (hG x hx) hB) hX)) ?_
    rintro v w2 ⟨rfl, hFA, hFo⟩
    have hdo : D.does o = D.append o.a o.b := by unfold Dk.does; rw [if_pos ht7]
    refine op rfl (r_assignV (v := .int _ _) rfl) ?_
    refine WL_nil ?_
    refine W_ret (blk_ret (finX_ret ?_))
    refine fin1 ?_
    first
      | (rw [hdo]; exact ⟨_, rfl, rfl, hFA, hFo.pre hF hB hX⟩)
      | (have hdo : D.does o = (D, 0) := by unfold Dk.does; rw [if_neg ht7, if_neg ht15, if_neg ht23, if_neg ht29, if_neg ht35]
         rw [hdo]; exact ⟨_, rfl, rfl, h.ext hX, Fo.ofExt hF hB hX⟩)
  · refine W_seq ?_
    refine W_region ?_
    refine op rfl (r_eql rfl rfl) ?_
    refine op rfl (r_assignV (v := .bool _) rfl) ?_
    refine WL_nil ?_
    refine W_ifp rfl (fun ht15 => ?_) (fun ht15 => ?_)
    · refine W_seq ?_
      refine W_region ?_
      refine op rfl (r_moveV (v := .pointer _) rfl) ?_
      refine op rfl (r_fieldAddr rfl Try.fld51_1 rfl) ?_
      refine op rfl (r_load (v := .int _ _) rfl Try.underlying3 rfl (Blk.cell B0_0 rfl)) ?_
      refine op rfl (r_fieldAddr rfl Try.fld51_2 rfl) ?_
      refine op rfl (r_load (v := .int _ _) rfl Try.underlying3 rfl (Blk.cell B0_0 rfl)) ?_
      refine opCv rfl (r_call Try.func19 Try.nm19 rfl) (cut_fa (h.ext hX) hw (by omega) o.a o.n) ?_
      rintro v w2 ⟨rfl, hFA, hFo⟩
      have hdo : D.does o = D.cut o.a o.n := by unfold Dk.does; rw [if_neg ht7, if_pos ht15]
      refine op rfl (r_assignV (v := .int _ _) rfl) ?_
      refine WL_nil ?_
      refine W_ret (blk_ret (finX_ret ?_))
      refine fin1 ?_
      first
        | (rw [hdo]; exact ⟨_, rfl, rfl, hFA, hFo.pre hF hB hX⟩)
        | (have hdo : D.does o = (D, 0) := by unfold Dk.does; rw [if_neg ht7, if_neg ht15, if_neg ht23, if_neg ht29, if_neg ht35]
           rw [hdo]; exact ⟨_, rfl, rfl, h.ext hX, Fo.ofExt hF hB hX⟩)
    · refine W_seq ?_
      refine W_region ?_
      refine op rfl (r_eql rfl rfl) ?_
      refine op rfl (r_assignV (v := .bool _) rfl) ?_
      refine WL_nil ?_
      refine W_ifp rfl (fun ht23 => ?_) (fun ht23 => ?_)
      · refine W_seq ?_
        refine W_region ?_
        refine op rfl (r_moveV (v := .pointer _) rfl) ?_
        refine op rfl (r_fieldAddr rfl Try.fld51_1 rfl) ?_
        refine op rfl (r_load (v := .int _ _) rfl Try.underlying3 rfl (Blk.cell B0_0 rfl)) ?_
        refine opCv rfl (r_call Try.func13 Try.nm13 rfl) (sync_fa (h.ext hX) hw (by omega) o.a) ?_
        rintro v w2 ⟨rfl, hFA, hFo⟩
        have hdo : D.does o = D.sync o.a := by unfold Dk.does; rw [if_neg ht7, if_neg ht15, if_pos ht23]
        refine op rfl (r_assignV (v := .int _ _) rfl) ?_
        refine WL_nil ?_
        refine W_ret (blk_ret (finX_ret ?_))
        refine fin1 ?_
        first
          | (rw [hdo]; exact ⟨_, rfl, rfl, hFA, hFo.pre hF hB hX⟩)
          | (have hdo : D.does o = (D, 0) := by unfold Dk.does; rw [if_neg ht7, if_neg ht15, if_neg ht23, if_neg ht29, if_neg ht35]
             rw [hdo]; exact ⟨_, rfl, rfl, h.ext hX, Fo.ofExt hF hB hX⟩)
      · refine W_seq ?_
        refine W_region ?_
        refine op rfl (r_eql rfl rfl) ?_
        refine op rfl (r_assignV (v := .bool _) rfl) ?_
        refine WL_nil ?_
        refine W_ifp rfl (fun ht29 => ?_) (fun ht29 => ?_)
        · refine W_region ?_
          refine op rfl (r_moveV (v := .pointer _) rfl) ?_
          refine op rfl (r_fieldAddr rfl Try.fld51_2 rfl) ?_
          refine op rfl (r_load (v := .int _ _) rfl Try.underlying3 rfl (Blk.cell B0_0 rfl)) ?_
          refine opCv rfl (r_call Try.func21 Try.nm21 rfl) (arm_fa (h.ext hX) o.n) ?_
          rintro v w2 ⟨hFA, hFo⟩
          have hdo : D.does o = (D.arm o.n, 0) := by unfold Dk.does; rw [if_neg ht7, if_neg ht15, if_neg ht23, if_pos ht29]
          refine WL_nil ?_
          refine W_seq ?_
          refine W_region ?_
          refine op rfl (r_assignV (v := .int _ _) rfl) ?_
          refine WL_nil ?_
          refine W_ret (finX_ret ?_)
          refine fin1 ?_
          first
            | (rw [hdo]; exact ⟨_, rfl, rfl, hFA, hFo.pre hF hB hX⟩)
            | (have hdo : D.does o = (D, 0) := by unfold Dk.does; rw [if_neg ht7, if_neg ht15, if_neg ht23, if_neg ht29, if_neg ht35]
               rw [hdo]; exact ⟨_, rfl, rfl, h.ext hX, Fo.ofExt hF hB hX⟩)
        · refine W_seq ?_
          refine W_region ?_
          refine op rfl (r_eql rfl rfl) ?_
          refine op rfl (r_assignV (v := .bool _) rfl) ?_
          refine WL_nil ?_
          refine W_ifp rfl (fun ht35 => ?_) (fun ht35 => ?_)
          · refine W_region ?_
            refine op rfl (r_moveV (v := .pointer _) rfl) ?_
            refine op rfl (r_fieldAddr rfl Try.fld51_2 rfl) ?_
            refine op rfl (r_load (v := .int _ _) rfl Try.underlying3 rfl (Blk.cell B0_0 rfl)) ?_
            refine opCv rfl (r_call Try.func15 Try.nm15 rfl) (restart_fa (h.ext hX) hw (by omega) o.n) ?_
            rintro v w2 ⟨hFA, hFo⟩
            have hdo : D.does o = (D.restart o.n, 0) := by unfold Dk.does; rw [if_neg ht7, if_neg ht15, if_neg ht23, if_neg ht29, if_pos ht35]
            refine WL_nil ?_
            refine W_seq ?_
            refine W_region ?_
            refine op rfl (r_assignV (v := .int _ _) rfl) ?_
            refine WL_nil ?_
            refine W_ret (finX_ret ?_)
            refine fin1 ?_
            first
              | (rw [hdo]; exact ⟨_, rfl, rfl, hFA, hFo.pre hF hB hX⟩)
              | (have hdo : D.does o = (D, 0) := by unfold Dk.does; rw [if_neg ht7, if_neg ht15, if_neg ht23, if_neg ht29, if_neg ht35]
                 rw [hdo]; exact ⟨_, rfl, rfl, h.ext hX, Fo.ofExt hF hB hX⟩)
          · refine W_skip ?_
            refine W_seq ?_
            refine W_region ?_
            refine op rfl (r_assignV (v := .int _ _) rfl) ?_
            refine WL_nil ?_
            refine W_ret (finX_ret ?_)
            refine fin1 ?_
            first
              | (rw [hdo]; exact ⟨_, rfl, rfl, hFA, hFo.pre hF hB hX⟩)
              | (have hdo : D.does o = (D, 0) := by unfold Dk.does; rw [if_neg ht7, if_neg ht15, if_neg ht23, if_neg ht29, if_neg ht35]
                 rw [hdo]; exact ⟨_, rfl, rfl, h.ext hX, Fo.ofExt hF hB hX⟩)
/-- The things done, in memory. -/
def doF (o : Do) : Int × Int × Int × List UInt8 := (o.k, o.a, o.n, o.b)
def doG (x : Int × Int × Int × List UInt8) : Do := ⟨x.1, x.2.1, x.2.2.1, x.2.2.2⟩
abbrev doT : Ty Do := ((Ty.int .i64).pair ((Ty.int .i64).pair ((Ty.int .i64).pair Ty.byte.slice))).iso doF
theorem do_cells {w : World} {A : Option Addr} {l : List Do} (h : doT.Row w (old w) A l) {i : Nat} (hi : i < l.length) :
    ∃ g off Ab cb, A = some ⟨g, off, none⟩ ∧ l[i].b.length ≤ big ∧ Ty.byte.Row w (old w) Ab l[i].b ∧ ∀ w', Ext w w' → ∀ q, q < 4 → w'.cell? ⟨g, off + i * 4 + q, none⟩ = [Value.int .i64 l[i].k, .int .i64 l[i].a, .int .i64 l[i].n, .slice Ab l[i].b.length cb][q]? := by
  obtain ⟨g, off, xs, hA, hg, ⟨c1, d1, rfl, ⟨rfl, _⟩, c2, d2, rfl, ⟨rfl, _⟩, c3, d3, rfl, ⟨rfl, _⟩, Ab, cb, rfl, h1, h2, h3⟩, hc⟩ := h.cells hi
  refine ⟨g, off, Ab, cb, hA, h2, h3, fun w' he q hq => ?_⟩
  rw [Below.cell he hg]
  exact hc q hq
theorem do_len {w : World} {A : Option Addr} {l : List Do} (h : doT.Row w (old w) A l) : ∀ o ∈ l, o.b.length ≤ 140737488355328 := by
  intro o ho
  obtain ⟨i, hi, rfl⟩ := List.mem_iff_getElem.1 ho
  obtain ⟨_, _, _, _, _, h2, _⟩ := do_cells h hi
  exact h2
theorem long_spec (A : Option Addr) (c : Nat) (l : List Do) (w : World) (hA : doT.Row w (old w) A l) (hl : l.length ≤ 50) : Calls Try.prog 37 #[.slice A l.length c] w (fun en w' => ∃ v, en = .returned v ∧ v = .int .i64 (long l) ∧ Ext w w') := by
  have hbig := long_big (do_len hA)
  refine calls' (n := 21) (rs := #[.tmp 2]) (l := [.slice A l.length c]) Try.func37 rfl rfl rfl rfl rfl ?_
  have hX := Ext.refl w
  refine W_seq ?_
  refine W_region ?_
  refine op rfl (r_assignV (v := .int _ _) rfl) ?_
  refine WL_nil ?_
  refine W_seq ?_
  refine W_region ?_
  refine op rfl (r_assignV (v := .int _ _) rfl) ?_
  refine WL_nil ?_
  refine W_seq ?_
  refine W_seq ?_
  refine W_region ?_
  refine op rfl (r_assignV (v := .int _ _) rfl) ?_
  refine WL_nil ?_
  refine W_block ?_
  refine W_loop [3, 4, 5, 6, 7, 8, 9, 10, 11, 12, 13, 14, 15, 16, 17, 18, 19] (fun q e' w' => ∃ i : Nat, q = l.length - i ∧ i ≤ l.length ∧ e' 4 = .int .i64 i ∧ e' 3 = .int .i64 (long (l.take i) : Nat) ∧ Ext w w') (l.length) ?_ ?_
  · exact ⟨0, by omega, by omega, rfl, by simp [long]; rfl, hX⟩
  intro k g w' hI
  obtain ⟨i, hq, hi, h4, h3, hX'⟩ := hI
  clear hX
  have hX := hX'
  clear hX'
  have hle := long_le l i
  refine W_set (i := 4) h4 ?_
  refine W_set (i := 3) h3 ?_
  refine W_seq ?_
  refine W_seq ?_
  refine W_region ?_
  refine op rfl (r_moveV (v := .int _ _) rfl) ?_
  refine op rfl (r_moveV (v := .slice _ _ _) rfl) ?_
  refine op rfl (r_len_slice rfl Try.underlying46) ?_
  refine op rfl (r_lss rfl rfl) ?_
  refine WL_nil ?_
  refine W_ifp rfl (fun ht8 => ?_) (fun ht8 => ?_)
  · have hlt : i < l.length := by omega
    obtain ⟨g, off, Ab, cb, hAe, hlb, hrb, hcell⟩ := do_cells hA hlt
    have hx3 : w'.cell? ⟨g, off + (i : Int).toNat * 4 + 3, none⟩ = some (.slice Ab l[i].b.length cb) := hcell _ hX 3 (by decide)
    have htk := long_take hlt
    have hle1 := long_le l (i + 1)
    refine W_skip ?_
    refine W_seq ?_
    refine W_block ?_
    refine W_region ?_
    refine op rfl (r_moveV (v := .int _ _) rfl) ?_
    refine op rfl (r_add' rfl rfl (wrap_i64 (by omega) (by omega))) ?_
    refine op rfl (r_moveV (v := .slice _ _ _) rfl) ?_
    refine op rfl (r_moveV (v := .int _ _) rfl) ?_
    refine op rfl (r_indexAddrN rfl rfl hAe Try.underlying46 Try.sz51 (by omega) (by omega)) ?_
    refine op rfl (r_fieldAddr rfl Try.fld51_3 rfl) ?_
    refine op rfl (r_load (v := .slice Ab l[i].b.length cb) rfl Try.underlying23 rfl hx3) ?_
    refine op rfl (r_len_slice rfl Try.underlying23) ?_
    refine op rfl (r_add' (r := ((long (l.take (i + 1)) : Nat) : Int)) rfl rfl (by rw [htk, wrap_i64 (by omega) (by omega)]; omega)) ?_
    refine op rfl (r_assignV (v := .int _ _) rfl) ?_
    refine WL_nil ?_
    refine W_region ?_
    refine op rfl (r_moveV (v := .int _ _) rfl) ?_
    refine op rfl (r_add' rfl rfl (wrap_i64 (by omega) (by omega))) ?_
    refine op rfl (r_assignV (v := .int _ _) rfl) ?_
    refine WL_nil ?_
    refine ⟨?_, by repeat (first | with_reducible exact Out.refl _ _ | with_reducible exact Out.mix | refine Out.put rfl ?_ | refine Out.mixin rfl ?_ | exact Out.refl _ _ | exact Out.mix)⟩
    exact ⟨l.length - (i + 1), by omega, i + 1, rfl, by omega, rfl, rfl, hX⟩
  · obtain rfl : i = l.length := by omega
    rw [List.take_length] at *
    refine W_exit (blk_hit ?_)
    refine W_seq ?_
    refine W_region ?_
    refine op rfl (r_moveV (v := .int _ _) rfl) ?_
    refine op rfl (r_assignV (v := .int _ _) rfl) ?_
    refine WL_nil ?_
    refine W_ret (finX_ret ?_)
    refine fin1 ?_
    exact ⟨_, rfl, rfl, hX⟩
theorem small_spec (A : Option Addr) (c : Nat) (l : List Do) (w : World) (hA : doT.Row w (old w) A l) (hl : l.length ≤ 140737488355328) : Calls Try.prog 24 #[.slice A l.length c] w (fun en w' => ∃ v, en = .returned v ∧ v = .bool (decide (l.length ≤ 50 ∧ long l ≤ 1500)) ∧ Ext w w') := by
  refine calls' (n := 11) (rs := #[.tmp 2]) (l := [.slice A l.length c]) Try.func24 rfl rfl rfl rfl rfl ?_
  have hX := Ext.refl w
  refine W_seq ?_
  refine W_region ?_
  refine op rfl (r_assignV (v := .bool _) rfl) ?_
  refine WL_nil ?_
  refine W_seq ?_
  refine W_region ?_
  refine op rfl (r_moveV (v := .slice _ _ _) rfl) ?_
  refine op rfl (r_len_slice rfl Try.underlying46) ?_
  refine op rfl (r_leq rfl rfl) ?_
  refine op_split rfl (r_moveV (v := .bool (decide _)) rfl) (fun hg6 => ?_) (fun hg6 => ?_)
  · refine opG_yes rfl rfl rfl rfl rfl (r_moveV (v := .slice _ _ _) rfl) ?_
    refine opGCv_yes rfl rfl rfl rfl rfl (r_call Try.func37 Try.nm37 rfl) (long_spec A c l _ (hA.ext hX) (by omega)) ?_
    rintro v w2 ⟨rfl, hE⟩
    replace hX := hX.trans hE
    refine opG_yes rfl rfl rfl rfl rfl (r_leq rfl rfl) ?_
    refine op rfl (r_pickTV (v := .bool _) rfl rfl) ?_
    refine op rfl (r_assignV (v := .bool _) rfl) ?_
    refine WL_nil ?_
    refine W_ret (finX_ret ?_)
    refine fin1 ?_
    exact ⟨_, rfl, by first | exact bool_ff (by omega) | exact bool_iff (by omega), hX⟩
  · refine opG_no rfl rfl rfl rfl rfl ?_
    refine opG_no rfl rfl rfl rfl rfl ?_
    refine opG_no rfl rfl rfl rfl rfl ?_
    refine op rfl (r_pickFV (v := .bool _) rfl rfl) ?_
    refine op rfl (r_assignV (v := .bool _) rfl) ?_
    refine WL_nil ?_
    refine W_ret (finX_ret ?_)
    refine fin1 ?_
    exact ⟨_, rfl, by first | exact bool_ff (by omega) | exact bool_iff (by omega), hX⟩
end Go.Proofs.Ytfgffaphpedimaa
