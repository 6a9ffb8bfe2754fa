/-
  The walks of package journal: numbers, records, frames.
-/
import Derived.Test.YtlidigdlcjhkfaaFacts
import Derived.Test.YtlidigdlcjhkfaaJnlM
import Derived.Test.YtlidigdlcjhkfaaFrameA
import Derived.Test.YtlidigdlcjhkfaaDiskF
import Derived.Lib.AppendZeros
namespace Go.Proofs.Ytlidigdlcjhkfaa
open Go Go.Eng Go.RowKit Go.Proofs
set_option linter.unusedVariables false
set_option linter.unusedSimpArgs false
set_option maxHeartbeats 2000000

/-- New blocks of bytes. -/
def Fb (w w' : World) : Nat → Prop := fun g => w.heap.size ≤ g ∧ ∃ c fr, w'.heap[g]? = some (.cells c 5 fr)
theorem Fb.lt {w w' : World} {g : Nat} (h : Fb w w' g) : w.heap.size ≤ g ∧ g < w'.heap.size := by
  obtain ⟨h1, c, fr, h2⟩ := h
  exact ⟨h1, heap_lt h2⟩
theorem Fb.ext {w w1 w2 : World} (he : Ext w1 w2) {g : Nat} (h : Fb w w1 g) : Fb w w2 g := by
  obtain ⟨h1, c, fr, h2⟩ := h
  exact ⟨h1, c, fr, ext_heap h2 he⟩
theorem Fb.pre {w w1 w2 : World} (he : Ext w w1) {g : Nat} (h : Fb w1 w2 g) : Fb w w2 g := ⟨Nat.le_trans he.size h.1, h.2⟩
/-- A slice of new bytes. -/
abbrev SB (w w' : World) (v : Value) (l : List UInt8) : Prop := SL Ty.byte w' (Fb w w') v l
theorem SB.ext {w w1 w2 : World} {v : Value} {l : List UInt8} (h : SB w w1 v l) (he : Ext w1 w2) : SB w w2 v l := h.keep (fun b hb => he.block b hb.lt.2) (fun b hb => hb.ext he)
theorem SB.pre {w w1 w2 : World} {v : Value} {l : List UInt8} (he : Ext w w1) (h : SB w1 w2 v l) : SB w w2 v l := h.keep (fun _ _ => rfl) (fun b hb => hb.pre he)
theorem Bs.sb {w w' : World} {B : Nat} {v : Value} {l : List UInt8} (h : Bs B 5 w' v l) (hB : w.heap.size ≤ B) : SB w w' v l := by
  have hk := h
  rcases hk with ⟨rfl, rfl⟩ | ⟨g, cap, c, xs, rfl, h1, h2, _⟩
  · exact ⟨none, 0, rfl, Nat.le_refl _, Ty.Row.nil⟩
  · obtain ⟨A', c', h3, h4, h5⟩ := h.read
    refine ⟨A', c', h3, h4, h5.keep (fun _ _ => rfl) ?_⟩
    rintro b (hb | hb)
    · exact hb.elim
    · obtain rfl : g = b := by simpa [Value.ownBlock] using hb
      exact ⟨Nat.le_trans hB h1, _, _, h2⟩
theorem read_da' {p B : Nat} {w : World} {D : Dk} (h : DA p B w D) {k : Nat} (hw : WF D k) (hk : k ≤ 1073741824) (a : Int) :
    Calls Try.prog 20 #[dq p, .int .i64 a] w (fun en w' => ∃ v, en = .returned v ∧ ∃ A c, v = .slice A (D.read a).length c ∧ Ext w w' ∧ (D.read a).length ≤ c ∧ Ty.byte.Row w' (old w') A (D.read a)) := by
  obtain ⟨H, rfl, hR⟩ := h
  refine (read_spec hR hw hk a).mono ?_
  rintro en w' ⟨v, rfl, h1, h2⟩
  obtain ⟨A, c, e, hc, hr⟩ := own_frow h2
  exact ⟨v, rfl, A, c, e, h1, hc, hr⟩
theorem get_ext (A : Option Addr) (c : Nat) (l : List UInt8) (w : World) (hlc : l.length ≤ c) (hl : l.length ≤ big) (hA : Bytes w A l) :
    Calls Try.prog 51 #[.slice A l.length c] w (fun en w' => ∃ v, en = .returned v ∧ v = .int .u64 (Frame.get l) ∧ Ext w w') := by
  refine (get_spec A c l w hlc hl hA).mono ?_
  rintro en w' ⟨v, rfl, h1, rfl⟩
  exact ⟨v, rfl, h1, Ext.refl _⟩
theorem numbered_spec (A : Option Addr) (c : Nat) (b : List UInt8) (w : World) (hbc : b.length ≤ c) (hb : b.length ≤ big) (hA : Bytes w A b) :
    Calls Try.prog 45 #[.slice A b.length c] w (fun en w' => ∃ v, en = .returned v ∧ ∃ A' c', v = .tuple #[.int .u64 (numd b).1, .slice A' (numd b).2.1.length c', .bool (decide ((numd b).2.2 = true))] ∧ Ext w w' ∧ (numd b).2.1.length ≤ c' ∧ Ty.byte.Row w' (Fb w w') A' (numd b).2.1) := by
  have hbb := hb
  unfold big at hb
  have hnl := Frame.next_le b
  refine calls' (n := 24) (rs := #[.tmp 2, .tmp 3, .tmp 4]) (l := [.slice A b.length c]) Try.func45 rfl rfl rfl rfl rfl ?_
  have hX := Ext.refl w
  refine W_seq ?_
  refine W_region ?_
  refine op rfl (r_assignV (v := .int _ _) rfl) ?_
  refine op rfl (r_assignV (v := .slice _ _ _) rfl) ?_
  refine op rfl (r_assignV (v := .bool _) rfl) ?_
  refine WL_nil ?_
  refine W_seq ?_
  refine W_region ?_
  refine op rfl (r_moveV (v := .slice _ _ _) rfl) ?_
  refine opCv rfl (r_call Try.func46 Try.nm46 rfl) (next_spec A c b _ hbc hbb hA) ?_
  rintro v w2 ⟨u, rfl, hE, hO⟩
  replace hX := hX.trans hE
  have hsb := Bs.sb hO (Nat.le_refl _)
  obtain ⟨A2, c2, rfl, hc2, hr2⟩ := hsb
  refine op rfl (r_moveV (v := .tuple #[.slice A2 (Frame.next b).1.length c2, .int .i64 (Frame.next b).2]) rfl) ?_
  refine op rfl (r_extract (vs := [.slice A2 (Frame.next b).1.length c2, .int .i64 (Frame.next b).2]) rfl rfl) ?_
  refine op rfl (r_extract (vs := [.slice A2 (Frame.next b).1.length c2, .int .i64 (Frame.next b).2]) rfl rfl) ?_
  refine op rfl (r_assignV (v := .slice A2 (Frame.next b).1.length c2) rfl) ?_
  refine op rfl (r_assignV (v := .int .i64 (Frame.next b).2) rfl) ?_
  refine WL_nil ?_
  refine W_seq ?_
  refine W_seq ?_
  refine W_region ?_
  refine op rfl (r_moveV (v := .int .i64 (Frame.next b).2) rfl) ?_
  refine op rfl (r_eql rfl rfl) ?_
  refine op_split rfl (r_moveV (v := .bool (decide _)) rfl) (fun hg14 => ?_) (fun hg14 => ?_)
  · refine opG_no rfl rfl rfl rfl rfl ?_
    refine opG_no rfl rfl rfl rfl rfl ?_
    refine opG_no rfl rfl rfl rfl rfl ?_
    refine op rfl (r_pickTV (v := .bool _) rfl rfl) ?_
    refine WL_nil ?_
    refine W_then rfl ?_
    refine W_seq ?_
    refine W_region ?_
    refine op rfl (r_assignV (v := .int _ _) rfl) ?_
    refine op rfl (r_assignV (v := .slice _ _ _) rfl) ?_
    refine op rfl (r_assignV (v := .bool _) rfl) ?_
    refine WL_nil ?_
    refine W_ret (finX_ret ?_)
    refine fin3 ?_
    first
      | (have hnd0 : numd b = (0, [], false) := by unfold numd; rw [if_pos (by omega)]
         rw [hnd0]
         exact ⟨_, rfl, none, 0, rfl, hX, Nat.le_refl _, Ty.Row.nil⟩)
      | (rw [hnd]
         refine ⟨_, rfl, cutA A2 c2 8 Ty.byte.sz, c2 - 8, ?_, hX, (show ((Frame.next b).1.drop 8).length ≤ c2 - 8 by rw [hdl]; omega), ?_⟩
         · rw [hdl]; rfl
         · exact (hr2.drop hc2).keep (fun b hb => hEE.block b hb.lt.2) (fun b hb => hb.ext hEE))
  · refine opG_yes rfl rfl rfl rfl rfl (r_moveV (v := .slice A2 (Frame.next b).1.length c2) rfl) ?_
    refine opG_yes rfl rfl rfl rfl rfl (r_len_slice rfl Try.underlying23) ?_
    refine opG_yes rfl rfl rfl rfl rfl (r_lss rfl rfl) ?_
    refine op rfl (r_pickFV (v := .bool _) rfl rfl) ?_
    refine WL_nil ?_
    refine W_ifp rfl (fun ht18 => ?_) (fun ht18 => ?_)
    · refine W_seq ?_
      refine W_region ?_
      refine op rfl (r_assignV (v := .int _ _) rfl) ?_
      refine op rfl (r_assignV (v := .slice _ _ _) rfl) ?_
      refine op rfl (r_assignV (v := .bool _) rfl) ?_
      refine WL_nil ?_
      refine W_ret (finX_ret ?_)
      refine fin3 ?_
      first
        | (have hnd0 : numd b = (0, [], false) := by unfold numd; rw [if_pos (by omega)]
           rw [hnd0]
           exact ⟨_, rfl, none, 0, rfl, hX, Nat.le_refl _, Ty.Row.nil⟩)
        | (rw [hnd]
           refine ⟨_, rfl, cutA A2 c2 8 Ty.byte.sz, c2 - 8, ?_, hX, (show ((Frame.next b).1.drop 8).length ≤ c2 - 8 by rw [hdl]; omega), ?_⟩
           · rw [hdl]; rfl
           · exact (hr2.drop hc2).keep (fun b hb => hEE.block b hb.lt.2) (fun b hb => hb.ext hEE))
    · have hn0 : (Frame.next b).2 ≠ 0 := by omega
      have hnb := Frame.next_body b hn0
      have hn8 : ¬ (Frame.next b).1.length < 8 := by omega
      have hnd : numd b = (Frame.get ((Frame.next b).1.take 8), (Frame.next b).1.drop 8, true) := by unfold numd; rw [if_neg (by omega)]
      have h8 : ((Frame.next b).1.take 8).length = 8 := by simp; omega
      have hr2' : ∀ u, Ext w2 u → Ty.byte.Row u (old u) A2 (Frame.next b).1 := fun u he => hr2.keep (fun b hb => he.block b hb.lt.2) (fun b hb => Nat.lt_of_lt_of_le hb.lt.2 he.size)
      have hdl : ((Frame.next b).1.drop 8).length = (Frame.next b).1.length - 8 := by simp
      refine W_skip ?_
      refine W_seq ?_
      refine W_drawF (W0 := w) (fun b : Nat => False) Try.wd rfl ?_
      intro wd4 hD
      replace hX := hX.trans hD
      have hS : Ext w wd4 ∧ Same (fun b : Nat => False) wd4 wd4 := ⟨hX, fun _ _ => rfl⟩
      refine A_take (i := 0) rfl (by kernel_rfl) (by kernel_rfl) (by kernel_rfl) rfl hS (fun _ hw => r_moveV (v := .slice A2 (Frame.next b).1.length c2) rfl) ?_
      refine A_take (i := 1) rfl (by kernel_rfl) (by kernel_rfl) (by kernel_rfl) rfl hS (fun _ hw => r_sliceHi (j := 8) rfl rfl Try.underlying23 Try.sz5 (by omega)) ?_
      refine A_take (i := 3) rfl (by kernel_rfl) (by kernel_rfl) (by kernel_rfl) rfl hS (fun _ hw => r_moveV (v := .slice A2 (Frame.next b).1.length c2) rfl) ?_
      refine A_take (i := 4) rfl (by kernel_rfl) (by kernel_rfl) (by kernel_rfl) rfl hS (fun _ hw => r_sliceLo (i := 8) rfl rfl Try.underlying23 Try.sz5 (by omega)) ?_
      refine A_ready1 (i := 2) (by kernel_rfl) ?_
      have hg8 := get_ext A2 c2 ((Frame.next b).1.take 8) wd4 (by rw [h8]; omega) (bigs _ (by rw [h8]; omega)) ((hr2' _ hD).take 8)
      rw [h8] at hg8
      refine O_call rfl rfl (r_call Try.func51 Try.nm51 rfl) (hg8) ?_
      rintro v w4 ⟨rfl, hE⟩
      replace hX := hX.trans hE
      replace hS : Ext w w4 ∧ Same (fun b : Nat => False) wd4 w4 := ⟨hX, fun b hb => hb.elim⟩
      refine ⟨hS, ?_⟩
      have hEE := hD.trans hE
      refine A_take (i := 5) rfl (by kernel_rfl) (by kernel_rfl) (by kernel_rfl) rfl hS (fun _ hw => r_assignV (v := .int _ _) rfl) ?_
      refine A_take (i := 6) rfl (by kernel_rfl) (by kernel_rfl) (by kernel_rfl) rfl hS (fun _ hw => r_assignV (v := .slice _ _ _) rfl) ?_
      refine A_take (i := 7) rfl (by kernel_rfl) (by kernel_rfl) (by kernel_rfl) rfl hS (fun _ hw => r_assignV (v := .bool _) rfl) ?_
      refine A_done (by kernel_rfl) ?_
      refine W_ret (finX_ret ?_)
      refine fin3 ?_
      first
        | (have hnd0 : numd b = (0, [], false) := by unfold numd; rw [if_pos (by omega)]
           rw [hnd0]
           exact ⟨_, rfl, none, 0, rfl, hX, Nat.le_refl _, Ty.Row.nil⟩)
        | (rw [hnd]
           refine ⟨_, rfl, cutA A2 c2 8 Ty.byte.sz, c2 - 8, ?_, hX, (show ((Frame.next b).1.drop 8).length ≤ c2 - 8 by rw [hdl]; omega), ?_⟩
           · rw [hdl]; rfl
           · exact (hr2.drop hc2).keep (fun b hb => hEE.block b hb.lt.2) (fun b hb => hb.ext hEE))
theorem zeroN (z : Value) (n : Nat) : (Builtin.zeroCells #[z] n).size = n := by rw [size_zeroCells]; simp
theorem r_appendN {P : Program} {w w' : World} {d : Option Tmp} {ty : TypeId} {pos : String} {af : Array Edge} {g : Option (Nat × Bool)} {ρ : Operand → Value} {s x : Operand} {t tn : TypeId} {v u v' : Value} (hs : ρ s = v) (hx : ρ x = u) (h : (Builtin.append_ #[t, tn] ty #[v, u]).run P w = .ok v' w') :
    (execOp ρ ⟨d, .call { callee := .builtin .append, args := #[s, x], argTypes := #[t, tn] }, ty, pos, af, g⟩).run P w = .ok (.value v') w' := by
  simp [execOp, resolve, invoke, builtin, hs, hx, h]
theorem r_cap_slice {P : Program} {w : World} {d : Option Tmp} {t : TypeId} {pos : String} {af : Array Edge} {g : Option (Nat × Bool)} {ρ : Operand → Value} {x : Operand} {ty e : TypeId} {A : Option Addr} {n c : Nat} (hx : ρ x = .slice A n c) (hu : P.underlying ty = some (.slice e)) :
    (execOp ρ ⟨d, .call { callee := .builtin .cap, args := #[x], argTypes := #[ty] }, t, pos, af, g⟩).run P w = .ok (.value (.int .i64 c)) w := by
  simp [execOp, resolve, invoke, builtin, Builtin.cap_, hx, run_underlying hu, goInt]
theorem grow_spec (n : Nat) (w : World) (hn : n ≤ 140737488355328) :
    Calls Try.prog 53 #[.slice none 0 0, .int .i64 n] w (fun en w' => ∃ v, en = .returned v ∧ Ext w w' ∧ Bs w.heap.size 5 w' v []) := by
  refine calls' (n := 27) (rs := #[.tmp 4]) (l := [.slice none 0 0, .int .i64 n]) Try.func53 rfl rfl rfl rfl rfl ?_
  have hX := Ext.refl w
  refine W_seq ?_
  refine W_region ?_
  refine op rfl (r_assignV (v := .slice _ _ _) rfl) ?_
  refine WL_nil ?_
  refine W_seq ?_
  refine W_seq ?_
  refine W_region ?_
  refine op rfl (r_moveV (v := .int _ _) rfl) ?_
  refine op rfl (r_lss rfl rfl) ?_
  refine WL_nil ?_
  refine W_ifp rfl (fun ht6 => ?_) (fun ht6 => ?_)
  · exact absurd ht6 (by omega)
  · refine W_skip ?_
    refine W_seq ?_
    refine W_seq ?_
    refine W_region ?_
    refine op rfl (r_moveV (v := .int _ _) rfl) ?_
    refine op rfl (r_moveV (v := .slice _ _ _) rfl) ?_
    refine op rfl (r_cap_slice rfl Try.underlying23) ?_
    refine op rfl (r_moveV (v := .slice _ _ _) rfl) ?_
    refine op rfl (r_len_slice rfl Try.underlying23) ?_
    refine op rfl (r_sub' (r := 0) rfl rfl rfl) ?_
    refine op rfl (r_sub' (r := (n : Int)) rfl rfl (wrap_i64 (by omega) (by omega))) ?_
    refine op rfl (r_assignV (v := .int _ _) rfl) ?_
    refine WL_nil ?_
    refine W_seq ?_
    refine W_region ?_
    refine op rfl (r_moveV (v := .int _ _) rfl) ?_
    refine op rfl (r_gtr rfl rfl) ?_
    refine WL_nil ?_
    refine W_ifp rfl (fun ht16 => ?_) (fun ht16 => ?_)
    · refine W_region ?_
      refine op rfl (r_moveV (v := .slice _ _ _) rfl) ?_
      refine op rfl (r_moveV (v := .slice _ _ _) rfl) ?_
      refine op rfl (r_cap_slice rfl Try.underlying23) ?_
      refine op rfl (r_sliceHi (j := 0) rfl rfl Try.underlying23 Try.sz5 (by omega)) ?_
      refine op rfl (r_moveV (v := .int _ _) rfl) ?_
      obtain ⟨inf, hi1, hi2, hi3, hi4⟩ := info_of Try.sz5 Try.by5 Try.zero5
      have hr := Go.Lib.run_append_nil_zeros (P := Try.prog) w 23 3 23 5 inf (.int .u8 0) .i64 .i64 Try.underlying23 Try.underlying3 hi1 hi4 n (by omega) (by omega) (by omega) (by rw [hi3]; omega)
      have hge := grownCap_ge w n 0 5
      refine op rfl (r_appendN rfl rfl hr) ?_
      have hE : Ext w (w.drew.alloc (.cells (Builtin.zeroCells (Value.int .u8 0).cells n ++ Builtin.zeroCells (Value.int .u8 0).cells (grownCap w n 0 5 - n)) 5)) := (Ext.drew (Ext.refl w)).of_alloc _
      have hB : Blk (w.drew.alloc (.cells (Builtin.zeroCells (Value.int .u8 0).cells n ++ Builtin.zeroCells (Value.int .u8 0).cells (grownCap w n 0 5 - n)) 5)) w.heap.size (Builtin.zeroCells (Value.int .u8 0).cells n ++ Builtin.zeroCells (Value.int .u8 0).cells (grownCap w n 0 5 - n)) 5 := heap_alloc_new w.drew _
      generalize w.drew.alloc (.cells (Builtin.zeroCells (Value.int .u8 0).cells n ++ Builtin.zeroCells (Value.int .u8 0).cells (grownCap w n 0 5 - n)) 5) = w5 at hE hB ⊢
      replace hX := hX.trans hE
      refine op rfl (r_moveV (v := .slice _ _ _) rfl) ?_
      refine op rfl (r_len_slice rfl Try.underlying23) ?_
      refine op rfl (r_sliceHi (j := 0) rfl rfl Try.underlying23 Try.sz5 (by omega)) ?_
      refine op rfl (r_assignV (v := .slice _ _ _) rfl) ?_
      refine WL_nil ?_
      refine W_seq ?_
      refine W_region ?_
      refine op rfl (r_moveV (v := .slice _ _ _) rfl) ?_
      refine op rfl (r_assignV (v := .slice _ _ _) rfl) ?_
      refine WL_nil ?_
      refine W_ret (finX_ret ?_)
      refine fin1 ?_
      first
        | exact ⟨_, rfl, hX, Own.nil⟩
        | exact ⟨_, rfl, hX, Or.inr ⟨w.heap.size, grownCap w n 0 5, _, [], rfl, Nat.le_refl _, hB, Nat.zero_le _, by simp only [Array.size_append, size_zeroCells]; show n * 1 + (grownCap w n 0 5 - n) * 1 = grownCap w n 0 5 * 1; omega, rfl, by simp⟩⟩
    · refine W_skip ?_
      refine W_seq ?_
      refine W_region ?_
      refine op rfl (r_moveV (v := .slice _ _ _) rfl) ?_
      refine op rfl (r_assignV (v := .slice _ _ _) rfl) ?_
      refine WL_nil ?_
      refine W_ret (finX_ret ?_)
      refine fin1 ?_
      first
        | exact ⟨_, rfl, hX, Own.nil⟩
        | exact ⟨_, rfl, hX, Or.inr ⟨w.heap.size, grownCap w n 0 5, _, [], rfl, Nat.le_refl _, hB, Nat.zero_le _, by simp only [Array.size_append, size_zeroCells]; show n * 1 + (grownCap w n 0 5 - n) * 1 = grownCap w n 0 5 * 1; omega, rfl, by simp⟩⟩
theorem concat_spec (A : Option Addr) (c : Nat) (l : List (List UInt8)) (w : World) (hl : l.length ≤ 1099511627776) (hA : BytesL w A l) (hs : l.flatten.length ≤ 1099511627776) :
    Calls Try.prog 49 #[.slice A l.length c] w (fun en w' => ∃ v, en = .returned v ∧ Ext w w' ∧ Bs w.heap.size 5 w' v l.flatten) := by
  have hft : ∀ i (h : i < l.length), (l.take (i + 1)).flatten.length = (l.take i).flatten.length + l[i].length := fun i h => by
    rw [List.take_succ_eq_append_getElem h, List.flatten_append, List.length_append]; simp
  have hfl : ∀ i, (l.take i).flatten.length ≤ l.flatten.length := fun i => by
    have := congrArg (fun x => x.flatten.length) (List.take_append_drop i l)
    simp only [List.flatten_append, List.length_append] at this
    omega
  refine calls' (n := 36) (rs := #[.tmp 2]) (l := [.slice A l.length c]) Try.func49 rfl rfl rfl rfl rfl ?_
  have hX := Ext.refl w
  refine W_seq ?_
  refine W_region ?_
  refine op rfl (r_assignV (v := .slice _ _ _) rfl) ?_
  refine WL_nil ?_
  refine W_seq ?_
  refine W_region ?_
  refine op rfl (r_assignV (v := .int _ _) rfl) ?_
  refine WL_nil ?_
  refine W_seq ?_
  refine W_seq ?_
  refine W_region ?_
  refine op rfl (r_moveV (v := .slice _ _ _) rfl) ?_
  refine op rfl (r_len_slice rfl Try.underlying22) ?_
  refine op rfl (r_moveV (v := .int _ _) rfl) ?_
  refine WL_nil ?_
  refine W_block ?_
  refine W_loop [3, 5, 11, 12, 13, 14, 15, 16, 17, 18, 19, 20, 21, 22] (fun q e' w' => ∃ i : Nat, q = l.length - i ∧ i ≤ l.length ∧ e' 11 = .int .i64 i ∧ e' 3 = .int .i64 ((l.take i).flatten.length : Nat) ∧ Ext w w') (l.length) ?_ ?_
  · exact ⟨0, by omega, by omega, rfl, rfl, hX⟩
  intro k g w' hI
  obtain ⟨i, hq, hi, h11, h3, hX'⟩ := hI
  clear hX
  have hX := hX'
  clear hX'
  have hf1 := hfl i
  refine W_set (i := 11) h11 ?_
  refine W_set (i := 3) h3 ?_
  refine W_seq ?_
  refine W_region ?_
  refine op rfl (r_lss rfl rfl) ?_
  refine WL_nil ?_
  refine W_seq ?_
  refine W_ifp rfl (fun ht12 => ?_) (fun ht12 => ?_)
  · have hlt : i < l.length := by omega
    obtain ⟨g, off, Ai, ci, hAe, _, hcl, hci, hcb, hri⟩ := (hA.ext hX).cellS hlt
    have hf2 := hfl (i + 1)
    have hf3 := hft i hlt
    refine W_skip ?_
    refine W_seq ?_
    refine W_block ?_
    refine W_seq ?_
    refine W_region ?_
    refine op rfl (r_indexAddr1 rfl rfl hAe Try.underlying22 Try.sz23 (by omega) (by omega)) ?_
    refine op rfl (r_load (v := .slice Ai l[i].length ci) rfl Try.underlying23 rfl hcl) ?_
    refine op rfl (r_assignV (v := .slice _ _ _) rfl) ?_
    refine WL_nil ?_
    refine W_seq ?_
    refine W_region ?_
    refine op rfl (r_moveV (v := .int _ _) rfl) ?_
    refine op rfl (r_moveV (v := .slice _ _ _) rfl) ?_
    refine op rfl (r_len_slice rfl Try.underlying23) ?_
    refine op rfl (r_add' (r := (((l.take (i + 1)).flatten.length : Nat) : Int)) rfl rfl (by rw [hf3, wrap_i64 (by omega) (by omega)]; omega)) ?_
    refine op rfl (r_assignV (v := .int _ _) rfl) ?_
    refine WL_nil ?_
    refine W_seq ?_
    refine W_region ?_
    refine op rfl (r_moveV (v := .int _ _) rfl) ?_
    refine op rfl (r_lss rfl rfl) ?_
    refine WL_nil ?_
    refine W_ifp rfl (fun ht20 => ?_) (fun ht20 => ?_)
    · exact absurd ht20 (by omega)
    · refine W_skip ?_
      refine W_region ?_
      refine op rfl (r_add' rfl rfl (wrap_i64 (by omega) (by omega))) ?_
      refine op rfl (r_moveV (v := .int _ _) rfl) ?_
      refine WL_nil ?_
      refine ⟨?_, by repeat (first | with_reducible exact Out.refl _ _ | with_reducible exact Out.mix | refine Out.put rfl ?_ | refine Out.mixin rfl ?_ | exact Out.refl _ _ | exact Out.mix)⟩
      exact ⟨l.length - (i + 1), by omega, i + 1, rfl, by omega, rfl, rfl, hX⟩
  · obtain rfl : i = l.length := by omega
    rw [List.take_length] at hf1
    refine W_exit (blk_hit ?_)
    refine W_seq ?_
    refine W_region ?_
    refine op rfl (r_moveV (v := .int _ _) rfl) ?_
    have hsz9 := hX.size
    have hg := grow_spec (l.take l.length).flatten.length w' (by rw [List.take_length]; omega)
    refine opCv rfl (r_call Try.func53 Try.nm53 rfl) (hg) ?_
    rintro v w2 ⟨hE, hO⟩
    replace hX := hX.trans hE
    refine op rfl (r_assignV (v := v) rfl) ?_
    refine WL_nil ?_
    refine W_seq ?_
    refine W_seq ?_
    refine W_region ?_
    refine op rfl (r_moveV (v := .slice _ _ _) rfl) ?_
    refine op rfl (r_len_slice rfl Try.underlying22) ?_
    refine op rfl (r_moveV (v := .int _ _) rfl) ?_
    refine WL_nil ?_
    refine W_block ?_
    refine W_loop [6, 8, 27, 28, 29, 30, 31, 32, 33, 34] (fun q e' w' => ∃ (i : Nat) (u : Value), q = l.length - i ∧ i ≤ l.length ∧ e' 27 = .int .i64 i ∧ e' 6 = u ∧ Ext w w' ∧ Bs w.heap.size 5 w' u (l.take i).flatten) (l.length) ?_ ?_
    · exact ⟨0, v, by omega, by omega, rfl, rfl, hX, hO.low hsz9⟩
    intro k g w' hI
    obtain ⟨i, u, hq, hi, h27, h6, hX', hOu⟩ := hI
    clear hX
    have hX := hX'
    clear hX'
    refine W_set (i := 27) h27 ?_
    refine W_set (i := 6) h6 ?_
    refine W_seq ?_
    refine W_region ?_
    refine op rfl (r_lss rfl rfl) ?_
    refine WL_nil ?_
    refine W_seq ?_
    refine W_ifp rfl (fun ht28 => ?_) (fun ht28 => ?_)
    · have hlt : i < l.length := by omega
      obtain ⟨g, off, Ai, ci, hAe, _, hcl, hci, hcb, hri⟩ := (hA.ext hX).cellS hlt
      have hf1 := hfl i
      have hf2 := hfl (i + 1)
      have hf3 := hft i hlt
      refine W_skip ?_
      refine W_seq ?_
      refine W_block ?_
      refine W_seq ?_
      refine W_region ?_
      refine op rfl (r_indexAddr1 rfl rfl hAe Try.underlying22 Try.sz23 (by omega) (by omega)) ?_
      refine op rfl (r_load (v := .slice Ai l[i].length ci) rfl Try.underlying23 rfl hcl) ?_
      refine op rfl (r_assignV (v := .slice _ _ _) rfl) ?_
      refine WL_nil ?_
      refine W_region ?_
      refine op rfl (r_moveV (v := u) rfl) ?_
      refine op rfl (r_moveV (v := .slice _ _ _) rfl) ?_
      refine op_app (v := u) flat_byte rfl rfl rfl Try.underlying23 Try.sz5 Try.by5 Try.zero5 rfl (hX) (hOu) (hri) (by omega) (by omega) ?_
      intro v13_2 w13_2 O13_2 X13_2 G13_2
      refine op rfl (r_assignV (v := v13_2) rfl) ?_
      refine WL_nil ?_
      refine W_region ?_
      refine op rfl (r_add' rfl rfl (wrap_i64 (by omega) (by omega))) ?_
      refine op rfl (r_moveV (v := .int _ _) rfl) ?_
      refine WL_nil ?_
      refine ⟨?_, by repeat (first | with_reducible exact Out.refl _ _ | with_reducible exact Out.mix | refine Out.put rfl ?_ | refine Out.mixin rfl ?_ | exact Out.refl _ _ | exact Out.mix)⟩
      exact ⟨l.length - (i + 1), by omega, i + 1, v13_2, rfl, by omega, rfl, rfl, X13_2, by rw [List.take_succ_eq_append_getElem hlt, List.flatten_append]; simpa only [List.flatten_cons, List.flatten_nil, List.append_nil] using O13_2⟩
    · obtain rfl : i = l.length := by omega
      rw [List.take_length] at hOu
      refine W_exit (blk_hit ?_)
      refine W_seq ?_
      refine W_region ?_
      refine op rfl (r_moveV (v := u) rfl) ?_
      refine op rfl (r_assignV (v := u) rfl) ?_
      refine WL_nil ?_
      refine W_ret (finX_ret ?_)
      refine fin1 ?_
      exact ⟨_, rfl, hX, hOu⟩
theorem framed_spec (s : Nat) (hs : s < 2 ^ 64) (A : Option Addr) (c : Nat) (b : List UInt8) (w : World) (hbc : b.length ≤ c) (hb : b.length ≤ 1099511627000) (hA : Bytes w A b) :
    Calls Try.prog 33 #[.int .u64 s, .slice A b.length c] w (fun en w' => ∃ v, en = .returned v ∧ ∃ u, v = .tuple #[u, .int .i64 (Frame.errOf (Frame.num s 8 ++ b))] ∧ Ext w w' ∧ Bs w.heap.size 5 w' u (Frame.encode (Frame.num s 8 ++ b))) := by
  have h8 := Frame.num_length s 8
  refine calls' (n := 14) (rs := #[.tmp 4, .tmp 5]) (l := [.int .u64 s, .slice A b.length c]) Try.func33 rfl rfl rfl rfl rfl ?_
  have hX := Ext.refl w
  refine W_seq ?_
  refine W_region ?_
  refine op rfl (r_assignV (v := .slice _ _ _) rfl) ?_
  refine op rfl (r_assignV (v := .int _ _) rfl) ?_
  refine WL_nil ?_
  refine W_seq ?_
  refine W_region ?_
  refine op rfl (r_moveV (v := .int _ _) rfl) ?_
  refine opCv rfl (r_call Try.func50 Try.nm50 rfl) (num_spec s hs 8 _) ?_
  rintro v w2 ⟨hE, hO⟩
  replace hX := hX.trans hE
  replace hO : Bs w.heap.size 5 w2 v (Frame.num s 8) := hO
  obtain ⟨A2, c2, rfl, hc2, hr2⟩ := own_frow hO
  refine op rfl (r_moveV (v := .slice _ _ _) rfl) ?_
  refine op_newS rfl (r_buildSlice (vs := [.slice _ _ _, .slice _ _ _]) Try.underlying22 Try.sz23 Try.zero23 rfl rfl rfl) ?_
  intro w1_3 b1_3 E1_3 B1_3 L1_3
  have hG1_3 : w.heap.size ≤ b1_3 := by have := hX.size; omega
  replace hX := hX.trans E1_3
  have hlen : (Frame.num s 8 ++ b).length = 8 + b.length := by rw [List.length_append, h8]
  have hBL := bytesL_two (c := c2) (c' := c) B1_3 hc2 (by rw [h8]; exact bigs 8 (by omega)) (hr2.ext E1_3) hbc (bigs _ (by omega)) (hA.ext hX)
  have CC := concat_spec _ 2 [Frame.num s 8, b] _ (by show 2 ≤ _; omega) hBL (by simp only [List.flatten_cons, List.flatten_nil, List.append_nil]; omega)
  simp only [List.flatten_cons, List.flatten_nil, List.append_nil] at CC
  refine opCv rfl (r_call Try.func49 Try.nm49 rfl) (CC) ?_
  rintro v4 w4 ⟨hE, hO4⟩
  replace B1_3 := Blk.ext B1_3 hE
  replace hX := hX.trans hE
  obtain ⟨A4, c4, rfl, hc4, hr4⟩ := own_frow hO4
  have hX4 := hX
  refine opCv rfl (r_call Try.func48 Try.nm48 rfl) (encode_spec A4 c4 (Frame.num s 8 ++ b) _ hc4 (bigs _ (by omega)) hr4) ?_
  rintro v5 w5 ⟨u, rfl, hE, hO5⟩
  replace B1_3 := Blk.ext B1_3 hE
  replace hX := hX.trans hE
  refine op rfl (r_extract (vs := [u, .int .i64 (Frame.errOf (Frame.num s 8 ++ b))]) rfl rfl) ?_
  refine op rfl (r_extract (vs := [u, .int .i64 (Frame.errOf (Frame.num s 8 ++ b))]) rfl rfl) ?_
  refine op rfl (r_assignV (v := u) rfl) ?_
  refine op rfl (r_assignV (v := .int .i64 (Frame.errOf (Frame.num s 8 ++ b))) rfl) ?_
  refine WL_nil ?_
  refine W_ret (finX_ret ?_)
  refine fin2 ?_
  exact ⟨_, rfl, u, rfl, hX, hO5.low hX4.size⟩
theorem chosen_spec {p B : Nat} {w : World} {D : Dk} (h : DA p B w D) {k : Nat} (hw : WF D k) (hk : k ≤ 1073741824) :
    Calls Try.prog 26 #[dq p] w (fun en w' => ∃ v, en = .returned v ∧ ∃ A' c', v = .tuple #[.int .u64 (chos (numd (D.read 0)) (numd (D.read 1))).1, .slice A' (chos (numd (D.read 0)) (numd (D.read 1))).2.length c'] ∧ Ext w w' ∧ (chos (numd (D.read 0)) (numd (D.read 1))).2.length ≤ c' ∧ Ty.byte.Row w' (Fb w w') A' (chos (numd (D.read 0)) (numd (D.read 1))).2) := by
  have hrl : ∀ a, (D.read a).length ≤ 1073741824 := fun a => by
    unfold Dk.read
    split
    · rename_i q; have := (hw.len _ (there_nat q).2).1; omega
    · simp
  refine calls' (n := 38) (rs := #[.tmp 2, .tmp 3]) (l := [dq p]) Try.func26 rfl rfl rfl rfl rfl ?_
  have hX := Ext.refl w
  refine W_seq ?_
  refine W_region ?_
  refine op rfl (r_assignV (v := .int _ _) rfl) ?_
  refine op rfl (r_assignV (v := .slice _ _ _) rfl) ?_
  refine WL_nil ?_
  refine W_seq ?_
  refine W_region ?_
  refine op rfl (r_moveV (v := dq p) rfl) ?_
  refine opCv rfl (r_call Try.func20 Try.nm20 rfl) (read_da' h hw hk 0) ?_
  rintro v w2 ⟨A1, c1, rfl, hE, hc1, hr1⟩
  replace hX := hX.trans hE
  have hX1 := hX
  refine opCv rfl (r_call Try.func45 Try.nm45 rfl) (numbered_spec A1 c1 (D.read 0) _ hc1 (bigs _ (by have := hrl 0; omega)) hr1) ?_
  rintro v w3 ⟨A2, c2, rfl, hE, hc2, hr2⟩
  replace hX := hX.trans hE
  have s2 : SB w w3 (.slice A2 (numd (D.read 0)).2.1.length c2) (numd (D.read 0)).2.1 := SB.pre hX1 ⟨A2, c2, rfl, hc2, hr2⟩
  have hX3 := hX
  refine op rfl (r_moveV (v := .tuple #[.int .u64 (numd (D.read 0)).1, .slice A2 (numd (D.read 0)).2.1.length c2, .bool (decide ((numd (D.read 0)).2.2 = true))]) rfl) ?_
  refine op rfl (r_extract (vs := [.int .u64 (numd (D.read 0)).1, .slice A2 (numd (D.read 0)).2.1.length c2, .bool (decide ((numd (D.read 0)).2.2 = true))]) rfl rfl) ?_
  refine op rfl (r_extract (vs := [.int .u64 (numd (D.read 0)).1, .slice A2 (numd (D.read 0)).2.1.length c2, .bool (decide ((numd (D.read 0)).2.2 = true))]) rfl rfl) ?_
  refine op rfl (r_extract (vs := [.int .u64 (numd (D.read 0)).1, .slice A2 (numd (D.read 0)).2.1.length c2, .bool (decide ((numd (D.read 0)).2.2 = true))]) rfl rfl) ?_
  refine op rfl (r_assignV (v := .int .u64 (numd (D.read 0)).1) rfl) ?_
  refine op rfl (r_assignV (v := .slice A2 (numd (D.read 0)).2.1.length c2) rfl) ?_
  refine op rfl (r_assignV (v := .bool (decide ((numd (D.read 0)).2.2 = true))) rfl) ?_
  refine WL_nil ?_
  refine W_seq ?_
  refine W_region ?_
  refine op rfl (r_moveV (v := dq p) rfl) ?_
  refine opCv rfl (r_call Try.func20 Try.nm20 rfl) (read_da' (h.ext hX3) hw hk 1) ?_
  rintro v w4 ⟨A3, c3, rfl, hE, hc3, hr3⟩
  replace hX := hX.trans hE
  have hE4 := hE
  have hX4 := hX
  refine opCv rfl (r_call Try.func45 Try.nm45 rfl) (numbered_spec A3 c3 (D.read 1) _ hc3 (bigs _ (by have := hrl 1; omega)) hr3) ?_
  rintro v w5 ⟨A4, c4, rfl, hE, hc4, hr4⟩
  replace hX := hX.trans hE
  have s4 : SB w w5 (.slice A4 (numd (D.read 1)).2.1.length c4) (numd (D.read 1)).2.1 := SB.pre hX4 ⟨A4, c4, rfl, hc4, hr4⟩
  have s3 := s2.ext (hE4.trans hE)
  refine op rfl (r_moveV (v := .tuple #[.int .u64 (numd (D.read 1)).1, .slice A4 (numd (D.read 1)).2.1.length c4, .bool (decide ((numd (D.read 1)).2.2 = true))]) rfl) ?_
  refine op rfl (r_extract (vs := [.int .u64 (numd (D.read 1)).1, .slice A4 (numd (D.read 1)).2.1.length c4, .bool (decide ((numd (D.read 1)).2.2 = true))]) rfl rfl) ?_
  refine op rfl (r_extract (vs := [.int .u64 (numd (D.read 1)).1, .slice A4 (numd (D.read 1)).2.1.length c4, .bool (decide ((numd (D.read 1)).2.2 = true))]) rfl rfl) ?_
  refine op rfl (r_extract (vs := [.int .u64 (numd (D.read 1)).1, .slice A4 (numd (D.read 1)).2.1.length c4, .bool (decide ((numd (D.read 1)).2.2 = true))]) rfl rfl) ?_
  refine op rfl (r_assignV (v := .int .u64 (numd (D.read 1)).1) rfl) ?_
  refine op rfl (r_assignV (v := .slice A4 (numd (D.read 1)).2.1.length c4) rfl) ?_
  refine op rfl (r_assignV (v := .bool (decide ((numd (D.read 1)).2.2 = true))) rfl) ?_
  refine WL_nil ?_
  refine W_seq ?_
  refine W_seq ?_
  refine W_region ?_
  refine op rfl (r_moveV (v := .bool (decide ((numd (D.read 1)).2.2 = true))) rfl) ?_
  refine op_split rfl (r_moveV (v := .bool (decide _)) rfl) (fun hg25 => ?_) (fun hg25 => ?_)
  · refine opG_yes rfl rfl rfl rfl rfl (r_moveV (v := .bool (decide ((numd (D.read 0)).2.2 = true))) rfl) ?_
    refine opG_yes rfl rfl rfl rfl rfl (r_notP rfl) ?_
    refine opG_split rfl rfl rfl rfl rfl (r_moveV (v := .bool (decide _)) rfl) (fun hg28 => ?_) (fun hg28 => ?_)
    · refine opG_no rfl rfl rfl rfl rfl ?_
      refine opG_no rfl rfl rfl rfl rfl ?_
      refine opG_no rfl rfl rfl rfl rfl ?_
      refine opG_yes rfl rfl rfl rfl rfl (r_pickTV (v := .bool _) rfl rfl) ?_
      refine op rfl (r_pickTV (v := .bool _) rfl rfl) ?_
      refine WL_nil ?_
      refine W_then rfl ?_
      refine W_seq ?_
      refine W_region ?_
      refine op rfl (r_moveV (v := .int .u64 (numd (D.read 1)).1) rfl) ?_
      refine op rfl (r_moveV (v := .slice A4 (numd (D.read 1)).2.1.length c4) rfl) ?_
      refine op rfl (r_assignV (v := .int .u64 (numd (D.read 1)).1) rfl) ?_
      refine op rfl (r_assignV (v := .slice A4 (numd (D.read 1)).2.1.length c4) rfl) ?_
      refine WL_nil ?_
      refine W_ret (finX_ret ?_)
      refine fin2 ?_
      first
        | (have e : chos (numd (D.read 0)) (numd (D.read 1)) = ((numd (D.read 1)).1, (numd (D.read 1)).2.1) := by
             unfold chos
             rw [if_pos ⟨hg25, Or.inl (by simpa using hg28)⟩]
           rw [e]
           obtain ⟨A', c', q1, q2, q3⟩ := s4
           cases q1
           exact ⟨_, rfl, A4, c4, rfl, hX, q2, q3⟩)
        | (have e : chos (numd (D.read 0)) (numd (D.read 1)) = ((numd (D.read 1)).1, (numd (D.read 1)).2.1) := by
             unfold chos
             rw [if_pos ⟨hg25, Or.inr (by omega)⟩]
           rw [e]
           obtain ⟨A', c', q1, q2, q3⟩ := s4
           cases q1
           exact ⟨_, rfl, A4, c4, rfl, hX, q2, q3⟩)
        | (have e : chos (numd (D.read 0)) (numd (D.read 1)) = ((numd (D.read 0)).1, (numd (D.read 0)).2.1) := by
             unfold chos
             rw [if_neg (fun q => hg25 q.1)]
           rw [e]
           obtain ⟨A', c', q1, q2, q3⟩ := s3
           cases q1
           exact ⟨_, rfl, A2, c2, rfl, hX, q2, q3⟩)
        | (have e : chos (numd (D.read 0)) (numd (D.read 1)) = ((numd (D.read 0)).1, (numd (D.read 0)).2.1) := by
             unfold chos
             rw [if_neg (fun q => q.2.elim (fun z => hg28 (by rw [z]; exact Bool.false_ne_true)) (fun z => ht33 (by omega)))]
           rw [e]
           obtain ⟨A', c', q1, q2, q3⟩ := s3
           cases q1
           exact ⟨_, rfl, A2, c2, rfl, hX, q2, q3⟩)
    · refine opG_yes rfl rfl rfl rfl rfl (r_moveV (v := .int .u64 (numd (D.read 1)).1) rfl) ?_
      refine opG_yes rfl rfl rfl rfl rfl (r_moveV (v := .int .u64 (numd (D.read 0)).1) rfl) ?_
      refine opG_yes rfl rfl rfl rfl rfl (r_gtr rfl rfl) ?_
      refine opG_yes rfl rfl rfl rfl rfl (r_pickFV (v := .bool _) rfl rfl) ?_
      refine op rfl (r_pickTV (v := .bool _) rfl rfl) ?_
      refine WL_nil ?_
      refine W_ifp rfl (fun ht33 => ?_) (fun ht33 => ?_)
      · refine W_seq ?_
        refine W_region ?_
        refine op rfl (r_moveV (v := .int .u64 (numd (D.read 1)).1) rfl) ?_
        refine op rfl (r_moveV (v := .slice A4 (numd (D.read 1)).2.1.length c4) rfl) ?_
        refine op rfl (r_assignV (v := .int .u64 (numd (D.read 1)).1) rfl) ?_
        refine op rfl (r_assignV (v := .slice A4 (numd (D.read 1)).2.1.length c4) rfl) ?_
        refine WL_nil ?_
        refine W_ret (finX_ret ?_)
        refine fin2 ?_
        first
          | (have e : chos (numd (D.read 0)) (numd (D.read 1)) = ((numd (D.read 1)).1, (numd (D.read 1)).2.1) := by
               unfold chos
               rw [if_pos ⟨hg25, Or.inl (by simpa using hg28)⟩]
             rw [e]
             obtain ⟨A', c', q1, q2, q3⟩ := s4
             cases q1
             exact ⟨_, rfl, A4, c4, rfl, hX, q2, q3⟩)
          | (have e : chos (numd (D.read 0)) (numd (D.read 1)) = ((numd (D.read 1)).1, (numd (D.read 1)).2.1) := by
               unfold chos
               rw [if_pos ⟨hg25, Or.inr (by omega)⟩]
             rw [e]
             obtain ⟨A', c', q1, q2, q3⟩ := s4
             cases q1
             exact ⟨_, rfl, A4, c4, rfl, hX, q2, q3⟩)
          | (have e : chos (numd (D.read 0)) (numd (D.read 1)) = ((numd (D.read 0)).1, (numd (D.read 0)).2.1) := by
               unfold chos
               rw [if_neg (fun q => hg25 q.1)]
             rw [e]
             obtain ⟨A', c', q1, q2, q3⟩ := s3
             cases q1
             exact ⟨_, rfl, A2, c2, rfl, hX, q2, q3⟩)
          | (have e : chos (numd (D.read 0)) (numd (D.read 1)) = ((numd (D.read 0)).1, (numd (D.read 0)).2.1) := by
               unfold chos
               rw [if_neg (fun q => q.2.elim (fun z => hg28 (by rw [z]; exact Bool.false_ne_true)) (fun z => ht33 (by omega)))]
             rw [e]
             obtain ⟨A', c', q1, q2, q3⟩ := s3
             cases q1
             exact ⟨_, rfl, A2, c2, rfl, hX, q2, q3⟩)
      · refine W_skip ?_
        refine W_seq ?_
        refine W_region ?_
        refine op rfl (r_moveV (v := .int .u64 (numd (D.read 0)).1) rfl) ?_
        refine op rfl (r_moveV (v := .slice A2 (numd (D.read 0)).2.1.length c2) rfl) ?_
        refine op rfl (r_assignV (v := .int .u64 (numd (D.read 0)).1) rfl) ?_
        refine op rfl (r_assignV (v := .slice A2 (numd (D.read 0)).2.1.length c2) rfl) ?_
        refine WL_nil ?_
        refine W_ret (finX_ret ?_)
        refine fin2 ?_
        first
          | (have e : chos (numd (D.read 0)) (numd (D.read 1)) = ((numd (D.read 1)).1, (numd (D.read 1)).2.1) := by
               unfold chos
               rw [if_pos ⟨hg25, Or.inl (by simpa using hg28)⟩]
             rw [e]
             obtain ⟨A', c', q1, q2, q3⟩ := s4
             cases q1
             exact ⟨_, rfl, A4, c4, rfl, hX, q2, q3⟩)
          | (have e : chos (numd (D.read 0)) (numd (D.read 1)) = ((numd (D.read 1)).1, (numd (D.read 1)).2.1) := by
               unfold chos
               rw [if_pos ⟨hg25, Or.inr (by omega)⟩]
             rw [e]
             obtain ⟨A', c', q1, q2, q3⟩ := s4
             cases q1
             exact ⟨_, rfl, A4, c4, rfl, hX, q2, q3⟩)
          | (have e : chos (numd (D.read 0)) (numd (D.read 1)) = ((numd (D.read 0)).1, (numd (D.read 0)).2.1) := by
               unfold chos
               rw [if_neg (fun q => hg25 q.1)]
             rw [e]
             obtain ⟨A', c', q1, q2, q3⟩ := s3
             cases q1
             exact ⟨_, rfl, A2, c2, rfl, hX, q2, q3⟩)
          | (have e : chos (numd (D.read 0)) (numd (D.read 1)) = ((numd (D.read 0)).1, (numd (D.read 0)).2.1) := by
               unfold chos
               rw [if_neg (fun q => q.2.elim (fun z => hg28 (by rw [z]; exact Bool.false_ne_true)) (fun z => ht33 (by omega)))]
             rw [e]
             obtain ⟨A', c', q1, q2, q3⟩ := s3
             cases q1
             exact ⟨_, rfl, A2, c2, rfl, hX, q2, q3⟩)
  · refine opG_no rfl rfl rfl rfl rfl ?_
    refine opG_no rfl rfl rfl rfl rfl ?_
    refine opG_no rfl rfl rfl rfl rfl ?_
    refine opG_none rfl rfl rfl rfl ?_
    refine opG_none rfl rfl rfl rfl ?_
    refine opG_none rfl rfl rfl rfl ?_
    refine opG_no rfl rfl rfl rfl rfl ?_
    refine op rfl (r_pickFV (v := .bool _) rfl rfl) ?_
    refine WL_nil ?_
    refine W_else rfl ?_
    refine W_skip ?_
    refine W_seq ?_
    refine W_region ?_
    refine op rfl (r_moveV (v := .int .u64 (numd (D.read 0)).1) rfl) ?_
    refine op rfl (r_moveV (v := .slice A2 (numd (D.read 0)).2.1.length c2) rfl) ?_
    refine op rfl (r_assignV (v := .int .u64 (numd (D.read 0)).1) rfl) ?_
    refine op rfl (r_assignV (v := .slice A2 (numd (D.read 0)).2.1.length c2) rfl) ?_
    refine WL_nil ?_
    refine W_ret (finX_ret ?_)
    refine fin2 ?_
    first
      | (have e : chos (numd (D.read 0)) (numd (D.read 1)) = ((numd (D.read 1)).1, (numd (D.read 1)).2.1) := by
           unfold chos
           rw [if_pos ⟨hg25, Or.inl (by simpa using hg28)⟩]
         rw [e]
         obtain ⟨A', c', q1, q2, q3⟩ := s4
         cases q1
         exact ⟨_, rfl, A4, c4, rfl, hX, q2, q3⟩)
      | (have e : chos (numd (D.read 0)) (numd (D.read 1)) = ((numd (D.read 1)).1, (numd (D.read 1)).2.1) := by
           unfold chos
           rw [if_pos ⟨hg25, Or.inr (by omega)⟩]
         rw [e]
         obtain ⟨A', c', q1, q2, q3⟩ := s4
         cases q1
         exact ⟨_, rfl, A4, c4, rfl, hX, q2, q3⟩)
      | (have e : chos (numd (D.read 0)) (numd (D.read 1)) = ((numd (D.read 0)).1, (numd (D.read 0)).2.1) := by
           unfold chos
           rw [if_neg (fun q => hg25 q.1)]
         rw [e]
         obtain ⟨A', c', q1, q2, q3⟩ := s3
         cases q1
         exact ⟨_, rfl, A2, c2, rfl, hX, q2, q3⟩)
      | (have e : chos (numd (D.read 0)) (numd (D.read 1)) = ((numd (D.read 0)).1, (numd (D.read 0)).2.1) := by
           unfold chos
           rw [if_neg (fun q => q.2.elim (fun z => hg28 (by rw [z]; exact Bool.false_ne_true)) (fun z => ht33 (by omega)))]
         rw [e]
         obtain ⟨A', c', q1, q2, q3⟩ := s3
         cases q1
         exact ⟨_, rfl, A2, c2, rfl, hX, q2, q3⟩)
end Go.Proofs.Ytlidigdlcjhkfaa
