/-
  Bytes are taken just if there is room for all of them; then as many fewer; cut off they are room again: the walk.
-/
import Derived.Test.YtfgffaphpedimaaFacts
import Derived.Test.YtfgffaphpedimaaDiskK
import Derived.Test.YtfgffaphpedimaaDiskV
import Derived.Test.YtfgffaphpedimaaDiskLPower
namespace Go.Proofs.Ytfgffaphpedimaa
open Go Go.Eng Go.RowKit Go.Proofs
set_option linter.unusedVariables false
set_option linter.unusedSimpArgs false
set_option maxHeartbeats 4000000
set_option maxRecDepth 20000

def lsum (l : List (List UInt8)) : Nat := (l.map List.length).sum
theorem lsum_succ {l : List (List UInt8)} {i : Nat} (h : i < l.length) : lsum (l.take (i + 1)) = lsum (l.take i) + l[i].length := by
  unfold lsum
  rw [List.take_succ_eq_append_getElem h, List.map_append, List.sum_append]
  simp only [List.map_cons, List.map_nil, List.sum_cons, List.sum_nil, Nat.add_zero]
theorem lsum_le (l : List (List UInt8)) (i : Nat) : lsum (l.take i) ≤ lsum l := by
  unfold lsum
  have h2 : (l.map List.length).sum = ((l.take i).map List.length).sum + ((l.drop i).map List.length).sum := by rw [← List.sum_append, ← List.map_append, List.take_append_drop]
  omega
theorem sumTo_upd (f : Nat → Nat) (a c : Nat) : ∀ {n : Nat}, a < n → sumTo n (fun i => if i = a then f a + c else f i) = sumTo n f + c
  | n + 1, h => by
    simp only [sumTo]
    by_cases ha : a = n
    · subst ha
      have e : ∀ m, m ≤ a → sumTo m (fun i => if i = a then f a + c else f i) = sumTo m f := by
        intro m
        induction m with
        | zero => intro _; rfl
        | succ m ih =>
          intro hm
          simp only [sumTo]
          rw [ih (by omega), if_neg (by omega)]
      rw [e a (Nat.le_refl _), if_pos rfl]; omega
    · rw [sumTo_upd f a c (n := n) (by omega), if_neg (by omega)]; omega
theorem rooms_step {D : Dk} {an u : Nat} (hL : Live D) (hn : D.n = 2) (hr : D.room = an) (hu : D.used = u) (j : Nat) (b : List UInt8) :
    Live (D.append ((j % 2 : Nat) : Int) b).1 ∧ (D.append ((j % 2 : Nat) : Int) b).1.n = 2 ∧ (D.append ((j % 2 : Nat) : Int) b).1.room = an ∧ (D.append ((j % 2 : Nat) : Int) b).1.used = (if u + b.length ≤ an then u + b.length else u) ∧ (D.append ((j % 2 : Nat) : Int) b).2 = (if u + b.length ≤ an then 0 else 8) := by
  have ht : D.there ((j % 2 : Nat) : Int) := by unfold Dk.there; omega
  by_cases hf : u + b.length ≤ an
  · obtain ⟨e1, l1, n1, r1, a1⟩ := live_append hL (b := b) ht (by omega)
    rw [if_pos hf, if_pos hf]
    refine ⟨l1, by omega, by omega, ?_, e1⟩
    unfold Dk.used
    rw [n1, a1]
    have e2 : (fun i => (if i = ((j % 2 : Nat) : Int).toNat then (⟨(D.ar ((j % 2 : Nat) : Int).toNat).now ++ b, (D.ar ((j % 2 : Nat) : Int).toNat).lasts, (D.ar ((j % 2 : Nat) : Int).toNat).pend ++ b.map St.grow⟩ : Ar) else D.ar i).now.length) = fun i => if i = ((j % 2 : Nat) : Int).toNat then (D.ar ((j % 2 : Nat) : Int).toNat).now.length + b.length else (D.ar i).now.length := by
      funext i
      split
      · simp
      · rfl
    rw [e2, sumTo_upd (fun i => (D.ar i).now.length) _ _ (by omega)]
    unfold Dk.used at hu
    omega
  · have e := live_full hL (b := b) ht (by omega)
    rw [e, if_neg hf, if_neg hf]
    exact ⟨hL, hn, hr, hu, rfl⟩
theorem rooms_end {D : Dk} {an : Nat} (hL : Live D) (hn : D.n = 2) (hr : D.room = an) :
    let D1 := (D.cut 0 0).1
    let D2 := (D1.cut 1 0).1
    (D.cut 0 0).2 = 0 ∧ (D1.cut 1 0).2 = 0 ∧ D2.used = 0 ∧ (D2.append 1 (List.replicate an 0)).2 = 0 := by
  intro D1 D2
  have t0 : D.there 0 := by unfold Dk.there; omega
  obtain ⟨e1, l1, n1, r1, a1⟩ := live_cut hL (n := 0) t0 (by omega) (by omega)
  have t1 : D1.there 1 := by unfold Dk.there; show (0 : Int) ≤ 1 ∧ (1 : Int) < ((D.cut 0 0).1.n : Int); omega
  obtain ⟨e2, l2, n2, r2, a2⟩ := live_cut l1 (n := 0) t1 (by omega) (by omega)
  have hu : D2.used = 0 := by
    refine sumTo_zero (fun i hi => ?_)
    have hi2 : i < 2 := by have : D2.n = 2 := by show ((D1.cut 1 0).1).n = 2; rw [n2]; show (D.cut 0 0).1.n = 2; omega
                           omega
    show (((D1.cut 1 0).1).ar i).now.length = 0
    rw [a2]
    by_cases h1 : i = (1 : Int).toNat
    · simp [h1]
    · have h0 : i = 0 := by simp at h1; omega
      simp only [h1, if_false]
      show (((D.cut 0 0).1).ar i).now.length = 0
      rw [a1]
      subst h0
      simp
  refine ⟨e1, e2, hu, ?_⟩
  have t2 : D2.there 1 := by unfold Dk.there; show (0 : Int) ≤ 1 ∧ (1 : Int) < (((D1.cut 1 0).1).n : Int); rw [n2]; exact t1
  refine (live_append l2 t2 ?_).1
  rw [hu, List.length_replicate]
  show 0 + an ≤ ((D1.cut 1 0).1).room
  rw [r2]
  show 0 + an ≤ (D.cut 0 0).1.room
  omega
theorem made_zero (n : Nat) : madeCells (Value.int .u8 0).cells (n * 1) = ((List.replicate n (0 : UInt8)).map fun x => Value.int .u8 x.toNat).toArray := by
  show madeCells #[Value.int .u8 0] (n * 1) = _
  rw [madeCells_one]
  apply Array.toList_inj.1
  simp
theorem refUsed_nil (w : World) : Calls Try.prog 20 #[.agg #[.slice none 0 0, .int .i64 0, .bool false, .int .i64 0, .bool false]] w (fun en w' => ∃ v, en = .returned v ∧ v = .int .i64 0 ∧ Ext w w') := by
  refine calls' (n := 22) (rs := #[.tmp 2]) (l := [.agg #[.slice none 0 0, .int .i64 0, .bool false, .int .i64 0, .bool false]]) Try.func20 rfl rfl rfl rfl rfl ?_
  have hX := Ext.refl w
  refine W_seq ?_
  refine W_region ?_
  refine op_box (v := .agg _) rfl rfl ?_
  intro w0_0 b0_0 E0_0 B0_0 L0_0
  have hG0_0 : w.heap.size ≤ b0_0 := by have := hX.size; omega
  replace hX := hX.trans E0_0
  refine op rfl (r_assignV (v := .int _ _) rfl) ?_
  refine WL_nil ?_
  refine W_seq ?_
  refine W_region ?_
  refine op rfl (r_assignV (v := .int _ _) rfl) ?_
  refine WL_nil ?_
  refine W_seq ?_
  refine W_seq ?_
  refine W_region ?_
  refine op rfl (r_assignV (v := .int _ _) rfl) ?_
  refine WL_nil ?_
  refine W_block ?_
  refine W_loop [3, 4, 5, 6, 7, 8, 9, 10, 11, 12, 13, 14, 15, 16, 17, 18, 19, 20] (fun k e' w' => e' 4 = .int .i64 0 ∧ e' 3 = .int .i64 0 ∧ Ext w w' ∧ Blk w' b0_0 #[.slice none 0 0, .int .i64 0, .bool false, .int .i64 0, .bool false] 40) (0) ?_ ?_
  · exact ⟨rfl, rfl, hX, B0_0⟩
  intro k g w' hI
  obtain ⟨h4, h3, hX', Bx0⟩ := hI
  clear hX B0_0
  have hX := hX'
  have B0_0 := Bx0
  clear hX' Bx0
  refine W_set (i := 4) h4 ?_
  refine W_set (i := 3) h3 ?_
  refine W_seq ?_
  refine W_seq ?_
  refine W_region ?_
  refine op rfl (r_moveV (v := .int _ _) rfl) ?_
  refine op rfl (r_fieldAddr rfl Try.fld40_0 rfl) ?_
  refine op rfl (r_load (v := .slice _ _ _) rfl Try.underlying38 rfl (Blk.cell B0_0 rfl)) ?_
  refine op rfl (r_len_slice (n := 0) rfl Try.underlying38) ?_
  refine op rfl (r_lss rfl rfl) ?_
  refine WL_nil ?_
  refine W_ifp rfl (fun ht9 => ?_) (fun ht9 => ?_)
  · exact absurd ht9 (by decide)
  · refine W_exit (blk_hit ?_)
    refine W_seq ?_
    refine W_region ?_
    refine op rfl (r_moveV (v := .int _ _) rfl) ?_
    refine op rfl (r_assignV (v := .int _ _) rfl) ?_
    refine WL_nil ?_
    refine W_ret (finX_ret ?_)
    refine fin1 ?_
    exact ⟨_, rfl, rfl, hX⟩
theorem diskRooms_walk (W : World) (rm : Int) (hrm : inK .u16 rm) (A : Option Addr) (c : Nat) (l : List (List UInt8)) (hc : l.length ≤ c) (hl : l.length ≤ big) (hA : Ty.byte.slice.Row W (old W) A l) :
    Calls Try.prog 4 #[.int .u16 rm, .slice A l.length c] W (fun e W' => ∃ v, e = .returned v ∧ v = .bool true ∧ Ext W W') := by
  have hll : l.length ≤ 140737488355328 := hl
  have hrm0 : 0 ≤ rm ∧ rm ≤ 65535 := by simp only [inK, lo, hi] at hrm; exact hrm
  clear hl hrm
  obtain ⟨an, han, han2⟩ : ∃ k : Nat, rm.tmod 200 = k ∧ k < 200 := by
    rw [Int.tmod_eq_emod_of_nonneg hrm0.1]
    exact ⟨(rm % 200).toNat, by omega, by omega⟩
  refine calls' (n := 113) (rs := #[.tmp 4]) (l := [.int .u16 rm, .slice A l.length c]) Try.func4 rfl rfl rfl rfl rfl ?_
  refine W_seq ?_
  refine W_region ?_
  refine op rfl (r_assignV (v := .bool _) rfl) ?_
  refine WL_nil ?_
  refine W_seq ?_
  refine W_region ?_
  refine op rfl (r_assignV (v := .int _ _) rfl) ?_
  refine WL_nil ?_
  refine W_seq ?_
  refine W_seq ?_
  refine W_region ?_
  refine op rfl (r_assignV (v := .int _ _) rfl) ?_
  refine WL_nil ?_
  refine W_block ?_
  refine W_loop [5, 6, 12, 13, 14, 15, 16, 17, 18, 19, 20, 21, 22, 23, 24] (fun q e' w' => ∃ (i : Nat) (s : Int), q = l.length - i ∧ i ≤ l.length ∧ e' 6 = .int .i64 i ∧ e' 5 = .int .i64 s ∧ (l.length ≤ 30 → s = lsum (l.take i)) ∧ lsum (l.take i) ≤ i * 140737488355328 ∧ W = w') (l.length) ?_ ?_
  · exact ⟨0, 0, by omega, by omega, rfl, rfl, fun _ => by simp [lsum], by simp [lsum], rfl⟩
  intro k g w' hI
  obtain ⟨i, s, hq, hi, h6, h5, hs, hsb, hwW⟩ := hI
  subst hwW
  refine W_set (i := 6) h6 ?_
  refine W_set (i := 5) h5 ?_
  refine W_seq ?_
  refine W_seq ?_
  refine W_region ?_
  refine op rfl (r_moveV (v := .int _ _) rfl) ?_
  refine op rfl (r_moveV (v := .slice _ _ _) rfl) ?_
  refine op rfl (r_len_slice rfl Try.underlying22) ?_
  refine op rfl (r_lss rfl rfl) ?_
  refine WL_nil ?_
  refine W_ifp rfl (fun ht15 => ?_) (fun ht15 => ?_)
  · have hlt : i < l.length := by omega
    obtain ⟨ga, oa, Ai, ci, hAe, hga, hcell, hci, hbig, hrow⟩ := Ty.Row.cellS hA hlt
    have hbig' : l[i].length ≤ 140737488355328 := hbig
    refine W_skip ?_
    refine W_seq ?_
    refine W_block ?_
    refine W_region ?_
    refine op rfl (r_moveV (v := .int _ _) rfl) ?_
    refine op rfl (r_moveV (v := .slice _ _ _) rfl) ?_
    refine op rfl (r_moveV (v := .int _ _) rfl) ?_
    refine op rfl (r_indexAddr1 rfl rfl hAe Try.underlying22 Try.sz23 (by omega) (by omega)) ?_
    refine op rfl (r_load (v := .slice Ai l[i].length ci) rfl Try.underlying23 rfl hcell) ?_
    refine op rfl (r_len_slice rfl Try.underlying23) ?_
    refine op rfl (r_add rfl rfl) ?_
    refine op rfl (r_assignV (v := .int _ _) rfl) ?_
    refine WL_nil ?_
    refine W_region ?_
    refine op rfl (r_moveV (v := .int _ _) rfl) ?_
    refine op rfl (r_add' rfl rfl (wrap_i64 (by omega) (by omega))) ?_
    refine op rfl (r_assignV (v := .int _ _) rfl) ?_
    refine WL_nil ?_
    refine ⟨?_, by repeat (first | with_reducible exact Out.refl _ _ | with_reducible exact Out.mix | refine Out.put rfl ?_ | refine Out.mixin rfl ?_ | exact Out.refl _ _ | exact Out.mix)⟩
    refine ⟨l.length - (i + 1), by omega, i + 1, _, rfl, by omega, rfl, rfl, fun h30 => ?_, by rw [lsum_succ hlt]; omega, rfl⟩
    rw [hs h30, lsum_succ hlt, wrap_i64 (by omega) (by omega)]
    omega
  · obtain rfl : i = l.length := by omega
    rw [List.take_length] at hs hsb
    refine W_exit (blk_hit ?_)
    refine W_seq ?_
    refine W_seq ?_
    refine W_region ?_
    refine op rfl (r_moveV (v := .int _ _) rfl) ?_
    refine op rfl (r_gtr rfl rfl) ?_
    refine op_split rfl (r_moveV (v := .bool (decide _)) rfl) (fun hg27 => ?_) (fun hg27 => ?_)
    · refine opG_no rfl rfl rfl rfl rfl ?_
      refine opG_no rfl rfl rfl rfl rfl ?_
      refine opG_no rfl rfl rfl rfl rfl ?_
      refine op rfl (r_pickTV (v := .bool _) rfl rfl) ?_
      refine WL_nil ?_
      refine W_then rfl ?_
      refine W_seq ?_
      refine W_region ?_
      refine opCv rfl (r_call Try.func10 Try.nm10 rfl) (known_spec _) ?_
      rintro v w2 ⟨rfl, hE2⟩
      refine op rfl (r_assignV (v := .bool _) rfl) ?_
      refine WL_nil ?_
      refine W_ret (finX_ret ?_)
      refine fin1 ?_
      first
        | exact ⟨_, rfl, rfl, hE2⟩
        | exact ⟨_, rfl, rfl, (hX6.trans hE7).trans hE8⟩
    · refine opG_yes rfl rfl rfl rfl rfl (r_moveV (v := .slice _ _ _) rfl) ?_
      refine opG_yes rfl rfl rfl rfl rfl (r_len_slice rfl Try.underlying22) ?_
      refine opG_yes rfl rfl rfl rfl rfl (r_gtr rfl rfl) ?_
      refine op rfl (r_pickFV (v := .bool _) rfl rfl) ?_
      refine WL_nil ?_
      refine W_ifp rfl (fun ht31 => ?_) (fun ht31 => ?_)
      · refine W_seq ?_
        refine W_region ?_
        refine opCv rfl (r_call Try.func10 Try.nm10 rfl) (known_spec _) ?_
        rintro v w2 ⟨rfl, hE2⟩
        refine op rfl (r_assignV (v := .bool _) rfl) ?_
        refine WL_nil ?_
        refine W_ret (finX_ret ?_)
        refine fin1 ?_
        first
          | exact ⟨_, rfl, rfl, hE2⟩
          | exact ⟨_, rfl, rfl, (hX6.trans hE7).trans hE8⟩
      · have h30 : l.length ≤ 30 := by omega
        have hs30 := hs h30
        have hs900 : lsum l ≤ 900 := by omega
        refine W_skip ?_
        refine W_seq ?_
        refine W_region ?_
        refine op rfl (r_moveV (v := .int _ _) rfl) ?_
        refine op rfl (r_conv' rfl Try.underlying34 Try.underlying3 (wrap_i64 (by omega) (by omega))) ?_
        refine op rfl (r_rem' rfl rfl (by decide) han) ?_
        refine op rfl (r_assignV (v := .int _ _) rfl) ?_
        refine WL_nil ?_
        refine W_seq ?_
        refine W_region ?_
        refine op rfl (r_moveV (v := .int _ _) rfl) ?_
        refine opCv rfl (r_call Try.func11 Try.nm11 rfl) (new_da 2 an W) ?_
        rintro v w1 ⟨p, rfl, hE1, hD0⟩
        have hroom0 : (Dk.new 2 an).room = an := by show (max 0 (min (an : Int) 4194304)).toNat = an; omega
        refine op rfl (r_assignV (v := .pointer _) rfl) ?_
        refine WL_nil ?_
        refine W_seq ?_
        refine W_region ?_
        refine op rfl (r_assignV (v := .int _ _) rfl) ?_
        refine WL_nil ?_
        refine W_seq ?_
        refine W_seq ?_
        refine W_region ?_
        refine op rfl (r_assignV (v := .int _ _) rfl) ?_
        refine WL_nil ?_
        refine W_block ?_
        refine W_loop [4, 9, 10, 11, 38, 39, 40, 41, 42, 43, 44, 45, 46, 47, 48, 49, 50, 51, 52, 53, 54, 55, 56, 57, 58, 59, 60, 61, 62, 63, 64, 65, 66, 67, 68, 69, 70, 71, 72, 73, 74, 75, 76, 77, 78, 79, 80, 81, 82, 83, 84] (fun q e' w'' => ∃ (i : Nat) (D : Dk) (u : Nat), q = l.length - i ∧ i ≤ l.length ∧ e' 10 = .int .i64 i ∧ e' 9 = .int .i64 u ∧ Live D ∧ D.n = 2 ∧ D.room = an ∧ D.used = u ∧ u ≤ an ∧ WF D (2 * lsum (l.take i)) ∧ DA p W.heap.size w'' D ∧ Ext W w'') (l.length) ?_ ?_
        · exact ⟨0, Dk.new 2 an, 0, by omega, by omega, rfl, rfl, live_new _ _, rfl, hroom0, new_used _ _, by omega, (WF.new 2 an).mono (by omega), hD0, hE1⟩
        intro k g w' hI
        obtain ⟨i, D, u, hq2, hi2, h10, h9, hL, hn2, hrD, huD, hua, hwf, hDA, hX⟩ := hI
        have hls := lsum_le l i
        refine W_set (i := 10) h10 ?_
        refine W_set (i := 9) h9 ?_
        refine W_seq ?_
        refine W_seq ?_
        refine W_region ?_
        refine op rfl (r_moveV (v := .int _ _) rfl) ?_
        refine op rfl (r_moveV (v := .slice _ _ _) rfl) ?_
        refine op rfl (r_len_slice rfl Try.underlying22) ?_
        refine op rfl (r_lss rfl rfl) ?_
        refine WL_nil ?_
        refine W_ifp rfl (fun ht41 => ?_) (fun ht41 => ?_)
        · have hlt2 : i < l.length := by omega
          obtain ⟨ga, oa, Ai, ci, hAe, hga, hcell, hci, hbig, hrow⟩ := Ty.Row.cellS hA hlt2
          have hbig' : l[i].length ≤ 140737488355328 := hbig
          have hlsum := lsum_succ hlt2
          have hls2 := lsum_le l (i + 1)
          obtain ⟨hL', hn', hr', hu', he'⟩ := rooms_step hL hn2 hrD huD i l[i]
          have hwf' := hwf.append ((i % 2 : Nat) : Int) l[i]
          have hcellX := ext_cell hX hcell
          have hrowX : Ty.byte.Row w' (old W) Ai l[i] := hrow.keep hX.same (fun _ h => h)
          refine W_skip ?_
          refine W_seq ?_
          refine W_block ?_
          refine W_seq ?_
          refine W_region ?_
          refine op rfl (r_moveV (v := .pointer _) rfl) ?_
          refine op rfl (r_moveV (v := .int _ _) rfl) ?_
          refine op rfl (r_rem' (r := ((i % 2 : Nat) : Int)) rfl rfl (by decide) (by rw [Int.tmod_eq_emod_of_nonneg (by omega)]; omega)) ?_
          refine op rfl (r_moveV (v := .slice _ _ _) rfl) ?_
          refine op rfl (r_moveV (v := .int _ _) rfl) ?_
          refine op rfl (r_indexAddr1 rfl rfl hAe Try.underlying22 Try.sz23 (by omega) (by omega)) ?_
          refine op rfl (r_load (v := .slice Ai l[i].length ci) rfl Try.underlying23 rfl hcellX) ?_
          refine opCv rfl (r_call Try.func12 Try.nm12 rfl) (append_da hDA hwf (by omega) ((i % 2 : Nat) : Int) Ai ci l[i] (by omega) (F := old W) (fun x hx ↦ hx) hrowX) ?_
          rintro v w3 ⟨rfl, hDA', hB3⟩
          have hX' : Ext W w3 := Below.trans hX hB3
          have hcellX2 := ext_cell hX' hcell
          generalize (D.append ((i % 2 : Nat) : Int) l[i]).1 = D' at hL' hn' hr' hu' hwf' hDA'
          obtain ⟨er, her⟩ : ∃ er, (D.append ((i % 2 : Nat) : Int) l[i]).2 = er := ⟨_, rfl⟩
          rw [her] at he' ⊢
          obtain ⟨u', hu2⟩ : ∃ u', (if u + l[i].length ≤ an then u + l[i].length else u) = u' := ⟨_, rfl⟩
          rw [hu2] at hu'
          have her0 : er = 0 ↔ u + l[i].length ≤ an := by rw [he']; by_cases hz : u + l[i].length ≤ an <;> simp [hz]
          have her8 : er ≠ 0 → er = 8 := by rw [he']; split <;> simp
          have hua' : u' ≤ an := by rw [← hu2]; split <;> omega
          have hu1 : er = 0 → u' = u + l[i].length := fun h => by rw [← hu2, if_pos (her0.1 h)]
          have hu0 : ¬ er = 0 → u' = u := fun h => by rw [← hu2, if_neg (fun q => h (her0.2 q))]
          replace hwf' : WF D' (2 * lsum (l.take (i + 1))) := hwf'.mono (by omega)
          refine op rfl (r_assignV (v := .int _ _) rfl) ?_
          refine WL_nil ?_
          refine W_seq ?_
          refine W_seq ?_
          refine W_region ?_
          refine op rfl (r_moveV (v := .int _ _) rfl) ?_
          refine op rfl (r_eql rfl rfl) ?_
          refine op rfl (r_moveV (v := .int _ _) rfl) ?_
          refine op rfl (r_moveV (v := .slice _ _ _) rfl) ?_
          refine op rfl (r_moveV (v := .int _ _) rfl) ?_
          refine op rfl (r_indexAddr1 rfl rfl hAe Try.underlying22 Try.sz23 (by omega) (by omega)) ?_
          refine op rfl (r_load (v := .slice Ai l[i].length ci) rfl Try.underlying23 rfl hcellX2) ?_
          refine op rfl (r_len_slice rfl Try.underlying23) ?_
          refine op rfl (r_add' (r := ((u + l[i].length : Nat) : Int)) rfl rfl (by rw [wrap_i64 (by omega) (by omega)]; omega)) ?_
          refine op rfl (r_moveV (v := .int _ _) rfl) ?_
          refine op rfl (r_leq rfl rfl) ?_
          refine op rfl (r_neqP rfl rfl Try.underlying4) ?_
          refine op_false rfl (r_moveV (v := .bool (decide _)) rfl) (fun h => h (by rw [her0]; omega)) ?_
          refine opG_yes rfl rfl rfl rfl rfl (r_moveV (v := .int _ _) rfl) ?_
          refine opG_yes rfl rfl rfl rfl rfl (r_neq rfl rfl) ?_
          refine opG_split rfl rfl rfl rfl rfl (r_moveV (v := .bool (decide _)) rfl) (fun hg67 => ?_) (fun hg67 => ?_)
          · refine opG_yes rfl rfl rfl rfl rfl (r_moveV (v := .int _ _) rfl) ?_
            refine opG_yes rfl rfl rfl rfl rfl (r_neq rfl rfl) ?_
            refine opG_yes rfl rfl rfl rfl rfl (r_pickTV (v := .bool _) rfl rfl) ?_
            refine op rfl (r_pickFV (v := .bool _) rfl rfl) ?_
            refine WL_nil ?_
            refine W_ifp rfl (fun ht71 => ?_) (fun ht71 => ?_)
            · exact absurd (her8 hg67) ht71
            · refine W_skip ?_
              refine W_seq ?_
              refine W_seq ?_
              refine W_region ?_
              refine op rfl (r_moveV (v := .int _ _) rfl) ?_
              refine op rfl (r_eql rfl rfl) ?_
              refine WL_nil ?_
              refine W_ifp rfl (fun ht73 => ?_) (fun ht73 => ?_)
              · refine W_region ?_
                refine op rfl (r_moveV (v := .int _ _) rfl) ?_
                refine op rfl (r_moveV (v := .slice _ _ _) rfl) ?_
                refine op rfl (r_moveV (v := .int _ _) rfl) ?_
                refine op rfl (r_indexAddr1 rfl rfl hAe Try.underlying22 Try.sz23 (by omega) (by omega)) ?_
                refine op rfl (r_load (v := .slice Ai l[i].length ci) rfl Try.underlying23 rfl hcellX2) ?_
                refine op rfl (r_len_slice rfl Try.underlying23) ?_
                refine op rfl (r_add' (r := ((u + l[i].length : Nat) : Int)) rfl rfl (by rw [wrap_i64 (by omega) (by omega)]; omega)) ?_
                refine op rfl (r_assignV (v := .int _ _) rfl) ?_
                refine WL_nil ?_
                refine W_seq ?_
                refine W_region ?_
                refine op rfl (r_moveV (v := .pointer _) rfl) ?_
                refine opCv rfl (r_call Try.func18 Try.nm18 rfl) (used_da hDA' hwf' (by omega)) ?_
                rintro v w4 ⟨rfl, hE4⟩
                replace hDA' := hDA'.ext hE4
                replace hX' := hX'.trans hE4
                rw [hu']
                refine op rfl (r_moveV (v := .int _ _) rfl) ?_
                refine op rfl (r_neq rfl rfl) ?_
                refine WL_nil ?_
                refine W_ifp rfl (fun ht84 => ?_) (fun ht84 => ?_)
                · exact absurd (by first | rw [hu1 ht73] | rw [hu0 ht73]) ht84
                · refine W_skip ?_
                  refine W_region ?_
                  refine op rfl (r_moveV (v := .int _ _) rfl) ?_
                  refine op rfl (r_add' rfl rfl (wrap_i64 (by omega) (by omega))) ?_
                  refine op rfl (r_assignV (v := .int _ _) rfl) ?_
                  refine WL_nil ?_
                  refine ⟨?_, by repeat (first | with_reducible exact Out.refl _ _ | with_reducible exact Out.mix | refine Out.put rfl ?_ | refine Out.mixin rfl ?_ | exact Out.refl _ _ | exact Out.mix)⟩
                  refine ⟨l.length - (i + 1), by omega, i + 1, D', u', rfl, by omega, rfl, ?_, hL', hn', hr', hu', hua', hwf', hDA', hX'⟩
                  first | (rw [hu1 ht73] <;> rfl) | (rw [hu0 ht73] <;> rfl)
              · refine W_skip ?_
                refine W_seq ?_
                refine W_region ?_
                refine op rfl (r_moveV (v := .pointer _) rfl) ?_
                refine opCv rfl (r_call Try.func18 Try.nm18 rfl) (used_da hDA' hwf' (by omega)) ?_
                rintro v w4 ⟨rfl, hE4⟩
                replace hDA' := hDA'.ext hE4
                replace hX' := hX'.trans hE4
                rw [hu']
                refine op rfl (r_moveV (v := .int _ _) rfl) ?_
                refine op rfl (r_neq rfl rfl) ?_
                refine WL_nil ?_
                refine W_ifp rfl (fun ht84 => ?_) (fun ht84 => ?_)
                · exact absurd (by first | rw [hu1 ht73] | rw [hu0 ht73]) ht84
                · refine W_skip ?_
                  refine W_region ?_
                  refine op rfl (r_moveV (v := .int _ _) rfl) ?_
                  refine op rfl (r_add' rfl rfl (wrap_i64 (by omega) (by omega))) ?_
                  refine op rfl (r_assignV (v := .int _ _) rfl) ?_
                  refine WL_nil ?_
                  refine ⟨?_, by repeat (first | with_reducible exact Out.refl _ _ | with_reducible exact Out.mix | refine Out.put rfl ?_ | refine Out.mixin rfl ?_ | exact Out.refl _ _ | exact Out.mix)⟩
                  refine ⟨l.length - (i + 1), by omega, i + 1, D', u', rfl, by omega, rfl, ?_, hL', hn', hr', hu', hua', hwf', hDA', hX'⟩
                  first | (rw [hu1 ht73] <;> rfl) | (rw [hu0 ht73] <;> rfl)
          · refine opG_no rfl rfl rfl rfl rfl ?_
            refine opG_no rfl rfl rfl rfl rfl ?_
            refine opG_yes rfl rfl rfl rfl rfl (r_pickFV (v := .bool _) rfl rfl) ?_
            refine op rfl (r_pickFV (v := .bool _) rfl rfl) ?_
            refine WL_nil ?_
            refine W_else rfl ?_
            refine W_skip ?_
            refine W_seq ?_
            refine W_seq ?_
            refine W_region ?_
            refine op rfl (r_moveV (v := .int _ _) rfl) ?_
            refine op rfl (r_eql rfl rfl) ?_
            refine WL_nil ?_
            refine W_ifp rfl (fun ht73 => ?_) (fun ht73 => ?_)
            · refine W_region ?_
              refine op rfl (r_moveV (v := .int _ _) rfl) ?_
              refine op rfl (r_moveV (v := .slice _ _ _) rfl) ?_
              refine op rfl (r_moveV (v := .int _ _) rfl) ?_
              refine op rfl (r_indexAddr1 rfl rfl hAe Try.underlying22 Try.sz23 (by omega) (by omega)) ?_
              refine op rfl (r_load (v := .slice Ai l[i].length ci) rfl Try.underlying23 rfl hcellX2) ?_
              refine op rfl (r_len_slice rfl Try.underlying23) ?_
              refine op rfl (r_add' (r := ((u + l[i].length : Nat) : Int)) rfl rfl (by rw [wrap_i64 (by omega) (by omega)]; omega)) ?_
              refine op rfl (r_assignV (v := .int _ _) rfl) ?_
              refine WL_nil ?_
              refine W_seq ?_
              refine W_region ?_
              refine op rfl (r_moveV (v := .pointer _) rfl) ?_
              refine opCv rfl (r_call Try.func18 Try.nm18 rfl) (used_da hDA' hwf' (by omega)) ?_
              rintro v w4 ⟨rfl, hE4⟩
              replace hDA' := hDA'.ext hE4
              replace hX' := hX'.trans hE4
              rw [hu']
              refine op rfl (r_moveV (v := .int _ _) rfl) ?_
              refine op rfl (r_neq rfl rfl) ?_
              refine WL_nil ?_
              refine W_ifp rfl (fun ht84 => ?_) (fun ht84 => ?_)
              · exact absurd (by first | rw [hu1 ht73] | rw [hu0 ht73]) ht84
              · refine W_skip ?_
                refine W_region ?_
                refine op rfl (r_moveV (v := .int _ _) rfl) ?_
                refine op rfl (r_add' rfl rfl (wrap_i64 (by omega) (by omega))) ?_
                refine op rfl (r_assignV (v := .int _ _) rfl) ?_
                refine WL_nil ?_
                refine ⟨?_, by repeat (first | with_reducible exact Out.refl _ _ | with_reducible exact Out.mix | refine Out.put rfl ?_ | refine Out.mixin rfl ?_ | exact Out.refl _ _ | exact Out.mix)⟩
                refine ⟨l.length - (i + 1), by omega, i + 1, D', u', rfl, by omega, rfl, ?_, hL', hn', hr', hu', hua', hwf', hDA', hX'⟩
                first | (rw [hu1 ht73] <;> rfl) | (rw [hu0 ht73] <;> rfl)
            · refine W_skip ?_
              refine W_seq ?_
              refine W_region ?_
              refine op rfl (r_moveV (v := .pointer _) rfl) ?_
              refine opCv rfl (r_call Try.func18 Try.nm18 rfl) (used_da hDA' hwf' (by omega)) ?_
              rintro v w4 ⟨rfl, hE4⟩
              replace hDA' := hDA'.ext hE4
              replace hX' := hX'.trans hE4
              rw [hu']
              refine op rfl (r_moveV (v := .int _ _) rfl) ?_
              refine op rfl (r_neq rfl rfl) ?_
              refine WL_nil ?_
              refine W_ifp rfl (fun ht84 => ?_) (fun ht84 => ?_)
              · exact absurd (by first | rw [hu1 ht73] | rw [hu0 ht73]) ht84
              · refine W_skip ?_
                refine W_region ?_
                refine op rfl (r_moveV (v := .int _ _) rfl) ?_
                refine op rfl (r_add' rfl rfl (wrap_i64 (by omega) (by omega))) ?_
                refine op rfl (r_assignV (v := .int _ _) rfl) ?_
                refine WL_nil ?_
                refine ⟨?_, by repeat (first | with_reducible exact Out.refl _ _ | with_reducible exact Out.mix | refine Out.put rfl ?_ | refine Out.mixin rfl ?_ | exact Out.refl _ _ | exact Out.mix)⟩
                refine ⟨l.length - (i + 1), by omega, i + 1, D', u', rfl, by omega, rfl, ?_, hL', hn', hr', hu', hua', hwf', hDA', hX'⟩
                first | (rw [hu1 ht73] <;> rfl) | (rw [hu0 ht73] <;> rfl)
        · obtain rfl : i = l.length := by omega
          rw [List.take_length] at hwf
          obtain ⟨x1, x2, x3, x4⟩ := rooms_end hL hn2 hrD
          have hw1 := hwf.cut 0 0
          have hw2 := hw1.cut 1 0
          generalize hg1 : (D.cut 0 0).1 = D1 at x1 x2 x3 x4 hw1 hw2
          generalize hg2 : (D1.cut 1 0).1 = D2 at x2 x3 x4 hw2
          refine W_exit (blk_hit ?_)
          refine W_seq ?_
          refine W_region ?_
          refine op rfl (r_moveV (v := .pointer _) rfl) ?_
          refine opCv rfl (r_call Try.func19 Try.nm19 rfl) (cut_da hDA hwf (by omega) 0 0) ?_
          rintro v w3 ⟨rfl, hD1, hB3⟩
          rw [hg1] at hD1
          have hX3 : Ext W w3 := Below.trans hX hB3
          refine op rfl (r_eql rfl rfl) ?_
          refine op_true rfl (r_moveV (v := .bool (decide _)) rfl) (x1) ?_
          refine opG_yes rfl rfl rfl rfl rfl (r_moveV (v := .pointer _) rfl) ?_
          refine opGCv_yes rfl rfl rfl rfl rfl (r_call Try.func19 Try.nm19 rfl) (cut_da hD1 hw1 (by omega) 1 0) ?_
          rintro v w4 ⟨rfl, hD2, hB4⟩
          rw [hg2] at hD2
          have hX4 : Ext W w4 := Below.trans hX3 hB4
          refine opG_yes rfl rfl rfl rfl rfl (r_eql rfl rfl) ?_
          refine op rfl (r_pickTV (v := .bool _) rfl rfl) ?_
          refine op_true rfl (r_moveV (v := .bool (decide _)) rfl) (x2) ?_
          refine opG_yes rfl rfl rfl rfl rfl (r_moveV (v := .pointer _) rfl) ?_
          refine opGCv_yes rfl rfl rfl rfl rfl (r_call Try.func18 Try.nm18 rfl) (used_da hD2 hw2 (by omega)) ?_
          rintro v w5 ⟨rfl, hE5⟩
          have hX5 := hX4.trans hE5
          have hD5 := hD2.ext hE5
          refine opG_yes rfl rfl rfl rfl rfl (r_eql rfl rfl) ?_
          refine op rfl (r_pickTV (v := .bool _) rfl rfl) ?_
          refine op_true rfl (r_moveV (v := .bool (decide _)) rfl) (by rw [x3]; rfl) ?_
          refine opG_yes rfl rfl rfl rfl rfl (r_moveV (v := .pointer _) rfl) ?_
          refine opG_yes rfl rfl rfl rfl rfl (r_moveV (v := .int _ _) rfl) ?_
          refine opG_yes rfl rfl rfl rfl rfl (r_makeSlice (m := an) (k := an) rfl rfl Try.underlying23 Try.sz5 Try.by5 Try.zero5 (Nat.le_refl _) (by omega) (by omega)) ?_
          refine opGCv_yes rfl rfl rfl rfl rfl (r_call Try.func12 Try.nm12 rfl) (append_lit hD5 (Ext.alloc _ _) rfl ⟨rfl, rfl, rfl, Nat.le_refl _, fun _ _ _ ↦ rfl⟩ (heap_alloc_new _ _) (l := List.replicate an 0) (by simp) (by simp; omega) (made_zero an) hw2 (by omega) 1) ?_
          rintro v w6 ⟨rfl, hD6, hB6, hle6⟩
          have hX6 : Ext W w6 := Below.trans (hX5.trans (Ext.alloc _ _)) hB6
          refine opG_yes rfl rfl rfl rfl rfl (r_eql rfl rfl) ?_
          refine op rfl (r_pickTV (v := .bool _) rfl rfl) ?_
          refine op_true rfl (r_moveV (v := .bool (decide _)) rfl) (x4) ?_
          refine opG_yes rfl rfl rfl rfl rfl (r_build (cs := [.slice _ _ _, .int _ _, .bool _, .int _ _, .bool _]) Try.lay40 (fun _ h => by cases h) rfl rfl) ?_
          refine opGCv_yes rfl rfl rfl rfl rfl (r_call Try.func20 Try.nm20 rfl) (refUsed_nil _) ?_
          rintro v w7 ⟨rfl, hE7⟩
          refine opG_yes rfl rfl rfl rfl rfl (r_eql (m := 0) (n := 0) rfl rfl) ?_
          refine op rfl (r_pickTV (v := .bool _) rfl rfl) ?_
          refine op_true rfl (r_moveV (v := .bool (decide _)) rfl) (rfl) ?_
          refine opGCv_yes rfl rfl rfl rfl rfl (r_call Try.func10 Try.nm10 rfl) (known_spec _) ?_
          rintro v w8 ⟨rfl, hE8⟩
          refine op rfl (r_pickTV (v := .bool _) rfl rfl) ?_
          refine op rfl (r_assignV (v := .bool _) rfl) ?_
          refine WL_nil ?_
          refine W_ret (finX_ret ?_)
          refine fin1 ?_
          first
            | exact ⟨_, rfl, rfl, hE2⟩
            | exact ⟨_, rfl, rfl, (hX6.trans hE7).trans hE8⟩
end Go.Proofs.Ytfgffaphpedimaa
