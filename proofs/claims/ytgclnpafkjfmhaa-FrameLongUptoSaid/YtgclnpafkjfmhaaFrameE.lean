/-
  The walks of package frame: the loop over all frames.
-/
import Derived.Test.YtgclnpafkjfmhaaFacts
import Derived.Test.YtgclnpafkjfmhaaFrameA
namespace Go.Proofs.Ytgclnpafkjfmhaa
open Go Go.Eng Go.RowKit Go.Proofs
set_option linter.unusedVariables false

theorem each_spec (A : Option Addr) (c n : Nat) (w : World) :
    Calls Try.prog 23 #[.slice A n c] w (fun en w' => ∃ v, en = .returned v ∧ ∃ bx, v = .func (.func 27) #[] #[.pointer (some ⟨bx, 0, none⟩)] ∧ Ext w w' ∧ Blk w' bx #[.slice A n c] 22 ∧ w.heap.size = bx) := by
  refine calls' (n := 4) (rs := #[.tmp 2]) (l := [.slice A n c]) Try.func23 rfl rfl rfl rfl rfl ?_
  refine W_seq ?_
  refine W_region ?_
  refine op_box (v := .slice _ _ _) rfl rfl ?_
  intro w0_0 b0_0 E0_0 B0_0 L0_0
  refine op rfl (r_assignV (v := .nilFunc) rfl) ?_
  refine WL_nil ?_
  refine W_seq ?_
  refine W_region ?_
  refine op rfl (r_makeFunc) ?_
  refine op rfl (r_assignV (v := .func (.func 27) #[] #[.pointer (some ⟨b0_0, 0, none⟩)]) rfl) ?_
  refine WL_nil ?_
  refine W_ret (finX_ret ?_)
  refine fin1 ?_
  exact ⟨_, rfl, b0_0, rfl, E0_0, B0_0, L0_0⟩

/-- What comes: a slice, and how many bytes there are up to its end. -/
abbrev It := (Option Addr × Nat × Nat) × Nat
abbrev sv (q : Option Addr × Nat × Nat) : Value := .slice q.1 q.2.1 q.2.2
def endOf (xs : List It) : Nat := (xs.getLast?.map (·.2)).getD 0
theorem endOf_snoc (xs : List It) (x : It) : endOf (xs ++ [x]) = x.2 := by simp [endOf]
/-- The blocks of bytes. -/
def bb (w : World) : Nat → Prop := fun g => ∃ c fr, w.heap[g]? = some (.cells c 5 fr)
/-- What each asks of the loop. -/
structure Kp (B bx : Nat) (w w' : World) : Prop where
  below : Below B w w'
  box : w'.heap[bx]? = w.heap[bx]?
  bytes : Same (bb w) w w'
theorem bb_ext {w w' : World} (h : Same (bb w) w w') : ∀ g, bb w g → bb w' g := fun g ⟨c, fr, hg⟩ => ⟨c, fr, by rw [h g ⟨c, fr, hg⟩]; exact hg⟩
theorem Kp.trans {B bx : Nat} {a b c : World} (h : Kp B bx a b) (k : Kp B bx b c) : Kp B bx a c :=
  ⟨h.below.trans k.below, k.box.trans h.box, fun g hg => (k.bytes g (bb_ext h.bytes g hg)).trans (h.bytes g hg)⟩
theorem Kp.turn {B bx s : Nat} {w w' : World} (h : Turn s w w') (hB : B ≤ w.heap.size) (hBs : B ≤ s) (hx : bx < s) (hxw : bx < w.heap.size) : Kp B bx w w' :=
  ⟨⟨h.os, h.tape, h.output, h.size, fun k hk => h.block k (by omega) (Or.inl (by omega))⟩, h.block bx hxw (Or.inl hx), fun g ⟨c, fr, hg⟩ => h.block g (heap_lt hg) (Or.inr ⟨c, _, fr, hg⟩)⟩
theorem Kp.ext {B bx : Nat} {w w' : World} (h : Ext w w') (hB : B ≤ w.heap.size) (hx : bx < w.heap.size) : Kp B bx w w' :=
  ⟨h.mono hB, h.block bx hx, fun g ⟨c, fr, hg⟩ => h.block g (heap_lt hg)⟩
/-- What is so of what has come. -/
def Pr (b : List UInt8) (xs : List It) (w : World) : Prop :=
  ∃ ls, Frame.To b ls (endOf xs) ∧ ls.length = xs.length ∧ ∀ i (h : i < xs.length) (h' : i < ls.length), Ty.byte.slice.R w (bb w) ls[i] [sv xs[i].1]
theorem Pr.same {b : List UInt8} {xs : List It} {w w' : World} (h : Pr b xs w) (hs : Same (bb w) w w') : Pr b xs w' := by
  obtain ⟨ls, h1, h2, h3⟩ := h
  exact ⟨ls, h1, h2, fun i hi hi' => Ty.byte.slice.keep (h3 i hi hi') hs (bb_ext hs)⟩
theorem Pr.nil {b : List UInt8} {w : World} : Pr b [] w := ⟨[], .nil, rfl, fun i hi => by simp at hi⟩
theorem Pr.snoc {b : List UInt8} {xs : List It} {w w' : World} {A : Option Addr} {n c : Nat} (h : Pr b xs w) (hE : Ext w w') (hz : (Frame.next (b.drop (endOf xs))).2 ≠ 0) (hn : (Frame.next (b.drop (endOf xs))).1.length = n) (hc : n ≤ c) (hb : n ≤ big)
    (hR : Ty.byte.Row w' (bb w') A (Frame.next (b.drop (endOf xs))).1) : Pr b (xs ++ [((A, n, c), endOf xs + (Frame.next (b.drop (endOf xs))).2)]) w' := by
  obtain ⟨ls, h1, h2, h3⟩ := h.same (fun g ⟨c, fr, hg⟩ => hE.block g (heap_lt hg))
  refine ⟨ls ++ [(Frame.next (b.drop (endOf xs))).1], by rw [endOf_snoc]; exact h1.snoc hz, by simp [h2], fun i hi hi' => ?_⟩
  by_cases hil : i < xs.length
  · rw [List.getElem_append_left (by omega), List.getElem_append_left hil]
    exact h3 i hil (by omega)
  · obtain rfl : i = xs.length := by simp at hi; omega
    rw [List.getElem_append_right (by omega), List.getElem_append_right (by omega)]
    simp only [h2, Nat.sub_self, List.getElem_cons_zero]
    exact ⟨A, c, by simp [sv, hn], by omega, by rw [hn]; exact hb, hR⟩

theorem each_iter (B bx : Nat) (A : Option Addr) (c : Nat) (b : List UInt8) (w : World) (hbc : b.length ≤ c) (hb : b.length ≤ big) (hBw : B ≤ w.heap.size) (hA : Ty.byte.Row w (fun g => g < B) A b) (hx : Blk w bx #[.slice A b.length c] 22) :
    Iter Try.prog 27 #[.pointer (some ⟨bx, 0, none⟩)] (fun x : It => #[sv x.1, .int .i64 x.2]) (Kp B bx) (Pr b) (fun xs => (Frame.next (b.drop (endOf xs))).2 = 0) (fun _ => True) w := by
  intro l J Jx W hW hJ hJx hY h0
  have hbb := hb
  unfold big at hb
  have hxW := ext_heap hx hW
  show Calls Try.prog 27 #[.func (.yield l) #[] #[], .pointer (some ⟨bx, 0, none⟩)] W _
  refine calls' (n := 25) (rs := #[]) (l := [.func (.yield l) #[] #[], .pointer (some ⟨bx, 0, none⟩)]) Try.func27 rfl rfl rfl rfl rfl ?_
  refine W_seq ?_
  refine W_region ?_
  refine op rfl (r_assignV (v := .int _ _) rfl) ?_
  refine WL_nil ?_
  refine W_block ?_
  refine W_loop [3, 4, 5, 6, 7, 8, 9, 10, 11, 12, 13, 14, 15, 16, 17, 18, 19, 20, 21, 22, 23, 24] (fun k g w' => ∃ pre : List It, g 3 = .int .i64 (endOf pre : Nat) ∧ k = b.length - endOf pre ∧ Pr b pre w' ∧ J pre w' ∧ Kp B bx W w' ∧ W.heap.size ≤ w'.heap.size) (b.length) ?_ ?_
  · exact ⟨[], rfl, rfl, Pr.nil, h0, ⟨Below.refl _ _, rfl, fun _ _ => rfl⟩, Nat.le_refl _⟩
  intro k g w' hI
  obtain ⟨pre, h3, rfl, hP, hj, hK, hsz⟩ := hI
  have hle : endOf pre ≤ b.length := by obtain ⟨ls, ht, _⟩ := hP; exact ht.le
  generalize hat : endOf pre = at_ at h3 hle
  have hbx := hK.box.trans hxW
  have hAt : Bytes w' A b := hA.keep (fun g hg => (hK.below.block g hg).trans (hW.block g (by omega))) (fun g hg => by have := hW.size; show g < w'.heap.size; omega)
  have hRd := hAt.drop hbc (k := at_)
  have hdl : (b.drop at_).length = b.length - at_ := by simp
  have hnx := next_spec (cutA A c at_ 1) (c - at_) (b.drop at_) w' (by omega) (bigs _ (by omega)) hRd
  rw [hdl] at hnx
  have hnle := Frame.next_le (b.drop at_)
  rw [hdl] at hnle
  have hb8 : (Frame.next (b.drop at_)).2 ≠ 0 → 8 ≤ (Frame.next (b.drop at_)).2 := fun hz => (Frame.next_body _ hz).2.1
  refine W_set (i := 3) h3 ?_
  refine W_block ?_
  refine W_seq ?_
  refine W_region ?_
  refine op rfl (r_load rfl Try.underlying22 rfl (cell_of_row _ bx 0 _ _ (0, 0) hbx)) ?_
  refine op rfl (r_moveV (v := .int _ _) rfl) ?_
  refine op rfl (r_sliceLo rfl rfl Try.underlying22 Try.sz5 hle) ?_
  refine opCv rfl (r_call Try.func9 Try.nm9 rfl) (hnx) ?_
  rintro v w3 ⟨u, rfl, hE, hO⟩
  obtain ⟨A3, c3, rfl, hc3, hR3⟩ := hO.read
  have hKE : Kp B bx w' w3 := Kp.ext hE (by have := hW.size; omega) (heap_lt hbx)
  have hR3' : Ty.byte.Row w3 (bb w3) A3 (Frame.next (b.drop at_)).1 := hR3.keep (fun _ _ => rfl) (by
    rintro g (hg | hg)
    · exact hg.elim
    · rcases hO with ⟨hq, _⟩ | ⟨g', cap, cc, xs, hq, _, hblk, _⟩
      · rw [hq] at hg; simp [Value.ownBlock] at hg
      · rw [hq] at hg; simp [Value.ownBlock] at hg; subst hg; exact ⟨cc, _, hblk⟩)
  refine op rfl (r_moveV (v := .tuple #[.slice A3 (Frame.next (b.drop at_)).1.length c3, .int .i64 (Frame.next (b.drop at_)).2]) rfl) ?_
  refine op rfl (r_extract (vs := [.slice A3 (Frame.next (b.drop at_)).1.length c3, .int .i64 (Frame.next (b.drop at_)).2]) rfl rfl) ?_
  refine op rfl (r_extract (vs := [.slice A3 (Frame.next (b.drop at_)).1.length c3, .int .i64 (Frame.next (b.drop at_)).2]) rfl rfl) ?_
  refine op rfl (r_assignV (v := .slice _ _ _) rfl) ?_
  refine op rfl (r_assignV (v := .int _ _) rfl) ?_
  refine WL_nil ?_
  refine W_seq ?_
  refine W_region ?_
  refine op rfl (r_moveV (v := .int _ _) rfl) ?_
  refine op rfl (r_moveV (v := .int _ _) rfl) ?_
  refine op rfl (r_add' (r := ((at_ + (Frame.next (b.drop at_)).2 : Nat) : Int)) rfl rfl (by rw [wrap_i64 (by omega) (by omega)]; omega)) ?_
  refine op rfl (r_assignV (v := .int _ _) rfl) ?_
  refine WL_nil ?_
  refine W_seq ?_
  refine W_region ?_
  refine op rfl (r_moveV (v := .int _ _) rfl) ?_
  refine op rfl (r_eql rfl rfl) ?_
  refine op_split rfl (r_moveV (v := .bool (decide _)) rfl) (fun hg18 => ?_) (fun hg18 => ?_)
  · refine opG_no rfl rfl rfl rfl rfl ?_
    refine opG_no rfl rfl rfl rfl rfl ?_
    refine opG_no rfl rfl rfl rfl rfl ?_
    refine opG_no rfl rfl rfl rfl rfl ?_
    refine opG_no rfl rfl rfl rfl rfl ?_
    refine op rfl (r_pickTV (v := .bool _) rfl rfl) ?_
    refine WL_nil ?_
    refine W_then rfl ?_
    refine W_ret (blk_ret (blk_ret (finX_ret ?_)))
    refine fin0 ?_
    refine ⟨⟨_, rfl⟩, Or.inl ⟨pre, ?_, hP.same hKE.bytes, hJ _ _ _ hj hE⟩⟩
    show (Frame.next (b.drop (endOf pre))).2 = 0
    rw [hat]
    omega
  · refine opG_yes rfl rfl rfl rfl rfl (r_moveV (v := .func (.yield l) #[] #[]) rfl) ?_
    refine opG_yes rfl rfl rfl rfl rfl (r_moveV (v := .slice _ _ _) rfl) ?_
    refine opG_yes rfl rfl rfl rfl rfl (r_moveV (v := .int _ _) rfl) ?_
    have hg18' : (Frame.next (b.drop at_)).2 ≠ 0 := by omega
    have hlb : (Frame.next (b.drop at_)).1.length ≤ big := by
      have := (Frame.next_body _ hg18').2.2
      exact bigs _ (by omega)
    have hP4 := Pr.snoc (A := A3) (n := (Frame.next (b.drop at_)).1.length) (c := c3) hP hE (by rw [hat]; exact hg18') (by rw [hat]) hc3 hlb (by rw [hat]; exact hR3')
    rw [hat] at hP4
    replace hg18 := hg18'
    refine opG_yield rfl rfl rfl rfl rfl rfl (r_yield rfl) (hY pre ((A3, (Frame.next (b.drop at_)).1.length, c3), at_ + (Frame.next (b.drop at_)).2) w3 (hJ _ _ _ hj hE) hP4) ?_
    rintro en w3_6 (⟨rfl, hJ3, hK3⟩ | ⟨rfl, hJ3⟩)
    · refine ⟨_, rfl, ?_⟩
      refine opG_yes rfl rfl rfl rfl rfl (r_notB rfl) ?_
      refine op rfl (r_pickFV (v := .bool _) rfl rfl) ?_
      refine WL_nil ?_
      refine W_else rfl ?_
      refine W_skip ?_
      refine ⟨?_, by repeat (first | exact Out.refl _ _ | exact Out.mix | refine Out.put rfl ?_ | refine Out.mixin rfl ?_)⟩
      exact ⟨b.length - (at_ + (Frame.next (b.drop at_)).2), by have := hb8 hg18; omega, pre ++ [((A3, (Frame.next (b.drop at_)).1.length, c3), at_ + (Frame.next (b.drop at_)).2)], by rw [endOf_snoc]; rfl, by rw [endOf_snoc], hP4.same hK3.bytes, hJ3, (hK.trans hKE).trans hK3, by have := hK3.below.size; have := hE.size; omega⟩
    · refine ⟨_, rfl, ?_⟩
      refine opG_yes rfl rfl rfl rfl rfl (r_notB rfl) ?_
      refine op rfl (r_pickFV (v := .bool _) rfl rfl) ?_
      refine WL_nil ?_
      refine W_then rfl ?_
      refine W_ret (blk_ret (blk_ret (finX_ret ?_)))
      refine fin0 ?_
      exact ⟨⟨_, rfl⟩, Or.inr ⟨_, trivial, hJ3⟩⟩
end Go.Proofs.Ytgclnpafkjfmhaa
