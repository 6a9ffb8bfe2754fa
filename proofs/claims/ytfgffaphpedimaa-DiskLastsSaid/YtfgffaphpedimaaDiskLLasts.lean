/-
  What was synced lasts: the walk.
-/
import Derived.Test.YtfgffaphpedimaaFacts
import Derived.Test.YtfgffaphpedimaaDiskK
import Derived.Test.YtfgffaphpedimaaDiskV
import Derived.Test.YtfgffaphpedimaaDiskLRooms
import Derived.Test.YtfgffaphpedimaaDiskF
namespace Go.Proofs.Ytfgffaphpedimaa
open Go Go.Eng Go.RowKit Go.Proofs
set_option linter.unusedVariables false
set_option linter.unusedSimpArgs false
set_option maxHeartbeats 8000000
set_option maxRecDepth 20000

structure LS (D : Dk) (x y : List UInt8) (z : List St) : Prop where
  live : Live D
  n : D.n = 2
  room : D.room = 5000
  a0 : D.ar 0 = ⟨[], [], []⟩
  a1 : D.ar 1 = ⟨x, y, z⟩
theorem LS.used {D : Dk} {x y : List UInt8} {z : List St} (h : LS D x y z) : D.used = x.length := by
  unfold Dk.used
  rw [h.n]
  simp only [sumTo, h.a0, h.a1]
  simp
theorem LS.t1 {D : Dk} {x y : List UInt8} {z : List St} (h : LS D x y z) : D.there 1 := by unfold Dk.there; rw [h.n]; omega
theorem LS.t0 {D : Dk} {x y : List UInt8} {z : List St} (h : LS D x y z) : D.there 0 := by unfold Dk.there; rw [h.n]; omega
theorem LS.new : LS (Dk.new 2 5000) [] [] [] := ⟨live_new _ _, rfl, rfl, rfl, rfl⟩
theorem LS.append {D : Dk} {x y : List UInt8} {z : List St} (h : LS D x y z) (b : List UInt8) (hb : x.length + b.length ≤ 5000) : (D.append 1 b).2 = 0 ∧ LS (D.append 1 b).1 (x ++ b) y (z ++ b.map St.grow) := by
  obtain ⟨e1, l1, n1, r1, a1⟩ := live_append h.live (b := b) h.t1 (by rw [h.used, h.room]; exact hb)
  have h1 : (1 : Int).toNat = 1 := rfl
  rw [h1, h.a1] at a1
  refine ⟨e1, l1, by rw [n1, h.n], by rw [r1, h.room], ?_, ?_⟩
  · rw [a1]; simp [h.a0]
  · rw [a1]; simp
theorem LS.sync {D : Dk} {x y : List UInt8} {z : List St} (h : LS D x y z) : (D.sync 1).2 = 0 ∧ LS (D.sync 1).1 x x [] := by
  obtain ⟨e1, l1, n1, r1, a1⟩ := live_sync h.live h.t1
  have h1 : (1 : Int).toNat = 1 := rfl
  rw [h1, h.a1] at a1
  refine ⟨e1, l1, by rw [n1, h.n], by rw [r1, h.room], ?_, ?_⟩
  · rw [a1]; simp [h.a0]
  · rw [a1]; simp
theorem runs_grow : ∀ (m : List UInt8) (y : List UInt8), runs (m.map St.grow) y = y ++ m
  | [], y => by simp [runs]
  | c :: m, y => by
    show runs (m.map St.grow) (St.run (.grow c) y) = _
    rw [runs_grow m]
    simp [St.run]
theorem LS.restart {D : Dk} {x y m : List UInt8} (h : LS D x y (m.map St.grow)) (keep : Int) : (D.restart keep).read 1 = y ++ m.take keep.toNat ∧ (D.restart keep).lasting 1 = y ++ m.take keep.toNat ∧ (D.restart keep).read 0 = [] := by
  have t1 : (D.restart keep).there 1 := h.t1
  have t0 : (D.restart keep).there 0 := h.t0
  have h1 : (1 : Int).toNat = 1 := rfl
  have h0 : (0 : Int).toNat = 0 := rfl
  have hn := h.n
  have e : runs ((m.map St.grow).take keep.toNat) y = y ++ m.take keep.toNat := by rw [← List.map_take, runs_grow]
  refine ⟨?_, ?_, ?_⟩
  · unfold Dk.read; rw [if_pos t1, h1]
    simp only [Dk.restart, hn, show (1 : Nat) < 2 by omega, if_true, h.a1, Ar.back]
    exact e
  · unfold Dk.lasting; rw [if_pos t1, h1]
    simp only [Dk.restart, hn, show (1 : Nat) < 2 by omega, if_true, h.a1, Ar.back]
    exact e
  · unfold Dk.read; rw [if_pos t0, h0]
    simp only [Dk.restart, hn, show (0 : Nat) < 2 by omega, if_true, h.a0, Ar.back]
    simp [runs]
theorem LS.read1 {D : Dk} {x y : List UInt8} {z : List St} (h : LS D x y z) : D.read 1 = x := by
  unfold Dk.read; rw [if_pos h.t1]
  show (D.ar 1).now = x
  rw [h.a1]
theorem flat_len (l : List (List UInt8)) : l.flatten.length = lsum l := by unfold lsum; rw [List.length_flatten]
theorem flat_succ {l : List (List UInt8)} {i : Nat} (h : i < l.length) : (l.take (i + 1)).flatten = (l.take i).flatten ++ l[i] := by
  rw [List.take_succ_eq_append_getElem h, List.flatten_append]; simp
theorem diskLasts_walk (W : World) (A : Option Addr) (ca : Nat) (a : List (List UInt8)) (hca : a.length ≤ ca) (ha : a.length ≤ big) (hA : Ty.byte.slice.Row W (old W) A a)
    (Bb : Option Addr) (cb : Nat) (b : List (List UInt8)) (hcb : b.length ≤ cb) (hb : b.length ≤ big) (hB : Ty.byte.slice.Row W (old W) Bb b) (keep : Int) (hkeep : inK .i64 keep) :
    Calls Try.prog 3 #[.slice A a.length ca, .slice Bb b.length cb, .int .i64 keep] W (fun e W' => ∃ v, e = .returned v ∧ v = .bool true ∧ Ext W W') := by
  have hla : a.length ≤ 140737488355328 := ha
  have hlb : b.length ≤ 140737488355328 := hb
  clear ha hb hkeep
  refine calls' (n := 142) (rs := #[.tmp 6]) (l := [.slice A a.length ca, .slice Bb b.length cb, .int .i64 keep]) Try.func3 rfl rfl rfl rfl rfl ?_
  refine W_seq ?_
  refine W_region ?_
  refine op rfl (r_assignV (v := .bool _) rfl) ?_
  refine WL_nil ?_
  refine W_seq ?_
  refine W_region ?_
  refine op rfl (r_assignV (v := .int _ _) rfl) ?_
  refine WL_nil ?_
  refine W_seq ?_
  refine W_seq ?_
  refine W_region ?_
  refine op rfl (r_assignV (v := .int _ _) rfl) ?_
  refine WL_nil ?_
  refine W_block ?_
  refine W_loop [7, 8, 18, 19, 20, 21, 22, 23, 24, 25, 26, 27, 28, 29, 30] (fun q e' w' => ∃ (i : Nat) (s : Int), q = a.length - i ∧ i ≤ a.length ∧ e' 8 = .int .i64 i ∧ e' 7 = .int .i64 s ∧ (a.length ≤ 30 → s = lsum (a.take i)) ∧ lsum (a.take i) ≤ i * 140737488355328 ∧ W = w') (a.length) ?_ ?_
  · exact ⟨0, 0, by omega, by omega, rfl, rfl, fun _ => by simp [lsum], by simp [lsum], rfl⟩
  intro k g w' hI
  obtain ⟨i, s, hq, hi, h8, h7, hs, hsb, hwW⟩ := hI
  subst hwW
  refine W_set (i := 8) h8 ?_
  refine W_set (i := 7) h7 ?_
  refine W_seq ?_
  refine W_seq ?_
  refine W_region ?_
  refine op rfl (r_moveV (v := .int _ _) rfl) ?_
  refine op rfl (r_moveV (v := .slice _ _ _) rfl) ?_
  refine op rfl (r_len_slice rfl Try.underlying22) ?_
  refine op rfl (r_lss rfl rfl) ?_
  refine WL_nil ?_
  refine W_ifp rfl (fun ht21 => ?_) (fun ht21 => ?_)
  · have hlt : i < a.length := by omega
    obtain ⟨ga, oa, Ai, ci, hAe, hga, hcell, hci, hbig, hrow⟩ := Ty.Row.cellS hA hlt
    have hbig' : a[i].length ≤ 140737488355328 := hbig
    refine W_skip ?_
    refine W_seq ?_
    refine W_block ?_
    refine W_region ?_
    refine op rfl (r_moveV (v := .int _ _) rfl) ?_
    refine op rfl (r_moveV (v := .slice _ _ _) rfl) ?_
    refine op rfl (r_moveV (v := .int _ _) rfl) ?_
    refine op rfl (r_indexAddr1 rfl rfl hAe Try.underlying22 Try.sz23 (by omega) (by omega)) ?_
    refine op rfl (r_load (v := .slice Ai a[i].length ci) rfl Try.underlying23 rfl hcell) ?_
    refine op rfl (r_len_slice rfl Try.underlying23) ?_
    refine op rfl (r_add rfl rfl) ?_
    refine op rfl (r_assignV (v := .int _ _) rfl) ?_
    refine WL_nil ?_
    refine W_region ?_
    refine op rfl (r_moveV (v := .int _ _) rfl) ?_
    refine op rfl (r_add' rfl rfl (wrap_i64 (by omega) (by omega))) ?_
    refine op rfl (r_assignV (v := .int _ _) rfl) ?_
    refine WL_nil ?_
    refine ⟨?_, by repeat (first | with_reducible exact Out.refl _ _ | with_reducible exact Out.mix | refine Out.put rfl ?_ | refine Out.mixin rfl ?_ | exact Out.refl _ _ | exact Out.mix)⟩
    refine ⟨a.length - (i + 1), by omega, i + 1, _, rfl, by omega, rfl, rfl, fun h30 => ?_, by rw [lsum_succ hlt]; omega, rfl⟩
    rw [hs h30, lsum_succ hlt, wrap_i64 (by omega) (by omega)]
    omega
  · obtain rfl : i = a.length := by omega
    rw [List.take_length] at hs hsb
    refine W_exit (blk_hit ?_)
    refine W_seq ?_
    refine W_seq ?_
    refine W_region ?_
    refine op rfl (r_assignV (v := .int _ _) rfl) ?_
    refine WL_nil ?_
    refine W_block ?_
    refine W_loop [7, 9, 31, 32, 33, 34, 35, 36, 37, 38, 39, 40, 41, 42, 43] (fun q e' w' => ∃ (i : Nat) (s2 : Int), q = b.length - i ∧ i ≤ b.length ∧ e' 9 = .int .i64 i ∧ e' 7 = .int .i64 s2 ∧ (a.length ≤ 30 → b.length ≤ 30 → s2 = lsum a + lsum (b.take i)) ∧ lsum (b.take i) ≤ i * 140737488355328 ∧ W = w') (b.length) ?_ ?_
    · exact ⟨0, s, by omega, by omega, rfl, rfl, fun h _ => by rw [hs h]; simp [lsum], by simp [lsum], rfl⟩
    intro k g w' hI
    obtain ⟨i, s2, hq2, hi2, h9, h7', hs2, hsb2, hwW⟩ := hI
    subst hwW
    refine W_set (i := 9) h9 ?_
    refine W_set (i := 7) h7' ?_
    refine W_seq ?_
    refine W_seq ?_
    refine W_region ?_
    refine op rfl (r_moveV (v := .int _ _) rfl) ?_
    refine op rfl (r_moveV (v := .slice _ _ _) rfl) ?_
    refine op rfl (r_len_slice rfl Try.underlying22) ?_
    refine op rfl (r_lss rfl rfl) ?_
    refine WL_nil ?_
    refine W_ifp rfl (fun ht34 => ?_) (fun ht34 => ?_)
    · have hlt : i < b.length := by omega
      obtain ⟨ga, oa, Ai, ci, hAe, hga, hcell, hci, hbig, hrow⟩ := Ty.Row.cellS hB hlt
      have hbig' : b[i].length ≤ 140737488355328 := hbig
      refine W_skip ?_
      refine W_seq ?_
      refine W_block ?_
      refine W_region ?_
      refine op rfl (r_moveV (v := .int _ _) rfl) ?_
      refine op rfl (r_moveV (v := .slice _ _ _) rfl) ?_
      refine op rfl (r_moveV (v := .int _ _) rfl) ?_
      refine op rfl (r_indexAddr1 rfl rfl hAe Try.underlying22 Try.sz23 (by omega) (by omega)) ?_
      refine op rfl (r_load (v := .slice Ai b[i].length ci) rfl Try.underlying23 rfl hcell) ?_
      refine op rfl (r_len_slice rfl Try.underlying23) ?_
      refine op rfl (r_add rfl rfl) ?_
      refine op rfl (r_assignV (v := .int _ _) rfl) ?_
      refine WL_nil ?_
      refine W_region ?_
      refine op rfl (r_moveV (v := .int _ _) rfl) ?_
      refine op rfl (r_add' rfl rfl (wrap_i64 (by omega) (by omega))) ?_
      refine op rfl (r_assignV (v := .int _ _) rfl) ?_
      refine WL_nil ?_
      refine ⟨?_, by repeat (first | with_reducible exact Out.refl _ _ | with_reducible exact Out.mix | refine Out.put rfl ?_ | refine Out.mixin rfl ?_ | exact Out.refl _ _ | exact Out.mix)⟩
      refine ⟨b.length - (i + 1), by omega, i + 1, _, rfl, by omega, rfl, rfl, fun h30 h31 => ?_, by rw [lsum_succ hlt]; omega, rfl⟩
      rw [hs2 h30 h31, lsum_succ hlt, wrap_i64 (by omega) (by omega)]
      omega
    · obtain rfl : i = b.length := by omega
      rw [List.take_length] at hs2 hsb2
      refine W_exit (blk_hit ?_)
      refine W_seq ?_
      refine W_seq ?_
      refine W_region ?_
      refine op rfl (r_moveV (v := .slice _ _ _) rfl) ?_
      refine op rfl (r_len_slice rfl Try.underlying22) ?_
      refine op rfl (r_moveV (v := .slice _ _ _) rfl) ?_
      refine op rfl (r_len_slice rfl Try.underlying22) ?_
      refine op rfl (r_add' rfl rfl (wrap_i64 (by omega) (by omega))) ?_
      refine op rfl (r_gtr rfl rfl) ?_
      refine op_split rfl (r_moveV (v := .bool (decide _)) rfl) (fun hg50 => ?_) (fun hg50 => ?_)
      · refine opG_no rfl rfl rfl rfl rfl ?_
        refine opG_no rfl rfl rfl rfl rfl ?_
        refine op rfl (r_pickTV (v := .bool _) rfl rfl) ?_
        refine WL_nil ?_
        refine W_then rfl ?_
        refine W_seq ?_
        refine W_region ?_
        refine opCv rfl (r_call Try.func10 Try.nm10 rfl) (known_spec _) ?_
        rintro v w2 ⟨rfl, hE2⟩
        refine op rfl (r_assignV (v := .bool _) rfl) ?_
        refine WL_nil ?_
        refine W_ret (finX_ret ?_)
        refine fin1 ?_
        first
          | exact ⟨_, rfl, rfl, hE2⟩
          | exact ⟨_, rfl, rfl, (((((hX9.trans hE10).trans hE11).trans hE12).trans hE13).trans hE14).trans hE15⟩
      · refine opG_yes rfl rfl rfl rfl rfl (r_moveV (v := .int _ _) rfl) ?_
        refine opG_yes rfl rfl rfl rfl rfl (r_gtr rfl rfl) ?_
        refine op rfl (r_pickFV (v := .bool _) rfl rfl) ?_
        refine WL_nil ?_
        refine W_ifp rfl (fun ht53 => ?_) (fun ht53 => ?_)
        · refine W_seq ?_
          refine W_region ?_
          refine opCv rfl (r_call Try.func10 Try.nm10 rfl) (known_spec _) ?_
          rintro v w2 ⟨rfl, hE2⟩
          refine op rfl (r_assignV (v := .bool _) rfl) ?_
          refine WL_nil ?_
          refine W_ret (finX_ret ?_)
          refine fin1 ?_
          first
            | exact ⟨_, rfl, rfl, hE2⟩
            | exact ⟨_, rfl, rfl, (((((hX9.trans hE10).trans hE11).trans hE12).trans hE13).trans hE14).trans hE15⟩
        · have hsum : lsum a + lsum b ≤ 800 := by have := hs2 (by omega) (by omega); omega
          clear hs hsb hs2 hsb2
          refine W_skip ?_
          refine W_seq ?_
          refine W_region ?_
          refine opCv rfl (r_call Try.func11 Try.nm11 rfl) (new_da 2 5000 W) ?_
          rintro v w1 ⟨p, rfl, hE1, hD0⟩
          refine op rfl (r_assignV (v := .pointer _) rfl) ?_
          refine WL_nil ?_
          refine W_seq ?_
          refine W_region ?_
          refine op rfl (r_assignV (v := .slice _ _ _) rfl) ?_
          refine WL_nil ?_
          refine W_seq ?_
          refine W_region ?_
          refine op rfl (r_assignV (v := .slice _ _ _) rfl) ?_
          refine WL_nil ?_
          refine W_seq ?_
          refine W_seq ?_
          refine W_region ?_
          refine op rfl (r_assignV (v := .int _ _) rfl) ?_
          refine WL_nil ?_
          refine W_block ?_
          refine W_loop [6, 11, 13, 56, 57, 58, 59, 60, 61, 62, 63, 64, 65, 66, 67, 68, 69, 70, 71, 72, 73, 74] (fun q e' w' => ∃ (i : Nat) (D : Dk) (sv : Value), q = a.length - i ∧ i ≤ a.length ∧ e' 13 = .int .i64 i ∧ e' 11 = sv ∧ LS D (a.take i).flatten [] ((a.take i).flatten.map St.grow) ∧ WF D (2 * lsum (a.take i)) ∧ FA p W.heap.size (fun b => sv.ownBlock = some b) w' D ∧ Bs W.heap.size 5 w' sv (a.take i).flatten ∧ Ext W w') (a.length) ?_ ?_
          · exact ⟨0, Dk.new 2 5000, .slice none 0 0, by omega, by omega, rfl, rfl, LS.new, (WF.new 2 5000).mono (by omega), hD0.fa.weak (fun b hb => by cases hb), Own.nil, hE1⟩
          intro k g w' hI
          obtain ⟨i, D, sv, hq3, hi3, h13, h11, hLS, hwf, hFA, hO, hX⟩ := hI
          have hls := lsum_le a i
          have hfl := flat_len (a.take i)
          refine W_set (i := 13) h13 ?_
          refine W_set (i := 11) h11 ?_
          refine W_seq ?_
          refine W_seq ?_
          refine W_region ?_
          refine op rfl (r_moveV (v := .int _ _) rfl) ?_
          refine op rfl (r_moveV (v := .slice _ _ _) rfl) ?_
          refine op rfl (r_len_slice rfl Try.underlying22) ?_
          refine op rfl (r_lss rfl rfl) ?_
          refine WL_nil ?_
          refine W_ifp rfl (fun ht59 => ?_) (fun ht59 => ?_)
          · have hlt : i < a.length := by omega
            obtain ⟨ga, oa, Ai, ci, hAe, hga, hcell, hci, hbig, hrow⟩ := Ty.Row.cellS hA hlt
            have hlsum := lsum_succ hlt
            have hls2 := lsum_le a (i + 1)
            obtain ⟨he2, hL2⟩ := hLS.append a[i] (by omega)
            have hwf2 := (hwf.append 1 a[i]).mono (m := 2 * lsum (a.take (i + 1))) (by omega)
            have hcellX := ext_cell hX hcell
            have hrowX : Ty.byte.Row w' (old W) Ai a[i] := hrow.keep hX.same (fun _ h => h)
            refine W_skip ?_
            refine W_seq ?_
            refine W_block ?_
            refine W_seq ?_
            refine W_seq ?_
            refine W_region ?_
            refine op rfl (r_moveV (v := .pointer _) rfl) ?_
            refine op rfl (r_moveV (v := .slice _ _ _) rfl) ?_
            refine op rfl (r_moveV (v := .int _ _) rfl) ?_
            refine op rfl (r_indexAddr1 rfl rfl hAe Try.underlying22 Try.sz23 (by omega) (by omega)) ?_
            refine op rfl (r_load (v := .slice Ai a[i].length ci) rfl Try.underlying23 rfl hcellX) ?_
            refine opCv rfl (r_call Try.func12 Try.nm12 rfl) (append_fa hFA hwf (by omega) 1 Ai ci a[i] (by omega) (G := old W) (fun x hx ↦ hx) hrowX) ?_
            rintro v w3 ⟨rfl, hFA3, hFo3⟩
            rw [he2]
            have hX3 : Ext W w3 := Below.trans hX hFo3.below
            have hO3 := own_fo hO (fun b q => q) hFo3
            have hcellX3 := ext_cell hX3 hcell
            generalize (D.append 1 a[i]).1 = D' at hL2 hwf2 hFA3
            refine op rfl (r_neq rfl rfl) ?_
            refine WL_nil ?_
            refine W_ifp rfl (fun ht68 => ?_) (fun ht68 => ?_)
            · exact absurd rfl ht68
            · refine W_skip ?_
              refine W_region ?_
              refine op rfl (r_moveV (v := sv) rfl) ?_
              refine op rfl (r_moveV (v := .slice _ _ _) rfl) ?_
              refine op rfl (r_moveV (v := .int _ _) rfl) ?_
              refine op rfl (r_indexAddr1 rfl rfl hAe Try.underlying22 Try.sz23 (by omega) (by omega)) ?_
              refine op rfl (r_load (v := .slice Ai a[i].length ci) rfl Try.underlying23 rfl hcellX3) ?_
              obtain ⟨sv', w4, hr, hO4, hG, hv⟩ := append_run (c := ci) hX3.size hO3 (hrowX.keep (hFo3.below.same' (Nat.le_refl _)) (fun _ h => h)) (by omega)
              have hX4 : Ext W w4 := Below.trans hX3 (below_gro hO3 (Nat.le_refl _) hG hX3.size)
              have hFA4 : FA p W.heap.size (fun b => sv'.ownBlock = some b) w4 D' := (hFA3.gro (v := sv) (fun b q => q) hG hv (fun b q => (hO4.lt q).2)).weak (fun b q => Or.inr q)
              refine op rfl (r_append rfl rfl hr) ?_
              refine op rfl (r_assignV (v := sv') rfl) ?_
              refine WL_nil ?_
              refine W_region ?_
              refine op rfl (r_moveV (v := .int _ _) rfl) ?_
              refine op rfl (r_add' rfl rfl (wrap_i64 (by omega) (by omega))) ?_
              refine op rfl (r_assignV (v := .int _ _) rfl) ?_
              refine WL_nil ?_
              refine ⟨?_, by repeat (first | with_reducible exact Out.refl _ _ | with_reducible exact Out.mix | refine Out.put rfl ?_ | refine Out.mixin rfl ?_ | exact Out.refl _ _ | exact Out.mix)⟩
              rw [← flat_succ hlt] at hL2 hO4
              refine ⟨a.length - (i + 1), by omega, i + 1, D', sv', rfl, by omega, rfl, rfl, ?_, hwf2, hFA4, hO4, hX4⟩
              rw [← List.map_append, ← flat_succ hlt] at hL2
              exact hL2
          · obtain rfl : i = a.length := by omega
            rw [List.take_length] at hLS hwf hO hls hfl
            generalize hXe : a.flatten = X at hLS hO hfl
            obtain ⟨he5, hL5⟩ := hLS.sync
            have hwf5 := hwf.sync 1
            refine W_exit (blk_hit ?_)
            refine W_seq ?_
            refine W_seq ?_
            refine W_region ?_
            refine op rfl (r_moveV (v := .pointer _) rfl) ?_
            refine opCv rfl (r_call Try.func13 Try.nm13 rfl) (sync_fa hFA hwf (by omega) 1) ?_
            rintro v w5 ⟨rfl, hFA5, hFo5⟩
            rw [he5]
            have hX5 : Ext W w5 := Below.trans hX hFo5.below
            have hO5 := own_fo hO (fun b q => q) hFo5
            generalize (D.sync 1).1 = D5 at hL5 hwf5 hFA5
            refine op rfl (r_neq rfl rfl) ?_
            refine WL_nil ?_
            refine W_ifp rfl (fun ht77 => ?_) (fun ht77 => ?_)
            · exact absurd rfl ht77
            · refine W_skip ?_
              refine W_seq ?_
              refine W_region ?_
              obtain ⟨A5, c5, hsv, hc5, hr5⟩ := own_frow hO5
              subst hsv
              refine op rfl (r_moveV (v := .slice _ _ _) rfl) ?_
              refine op rfl (r_moveV (v := .slice A5 X.length c5) rfl) ?_
              obtain ⟨av, w6, hr6, hO6, hG6, hv6⟩ := append_run (v := .slice none 0 0) (l := []) (c := c5) hX5.size Own.nil hr5 (by simp only [List.length_nil]; omega)
              rw [List.nil_append] at hO6
              have hE6 : Ext w5 w6 := Gro.ext hG6
              have hX6 : Ext W w6 := hX5.trans hE6
              have hFA6 := hFA5.gro (v := .slice none 0 0) (fun b q => by cases q) hG6 hv6 (fun b q => (hO6.lt q).2)
              have hOs6 := own_fext hO5 hE6
              have hne6 : ∀ b, (Value.slice A5 X.length c5).ownBlock = some b → av.ownBlock ≠ some b := fun b q q2 => by
                have h1 := (hO5.lt q).2
                rcases hv6 with h | ⟨g, h, hg⟩
                · rw [q2] at h; cases h
                · rw [q2] at h; cases h; omega
              refine op rfl (r_append rfl rfl hr6) ?_
              refine op rfl (r_assignV (v := av) rfl) ?_
              refine WL_nil ?_
              refine W_seq ?_
              refine W_seq ?_
              refine W_region ?_
              refine op rfl (r_assignV (v := .int _ _) rfl) ?_
              refine WL_nil ?_
              refine W_block ?_
              refine W_loop [12, 14, 81, 82, 83, 84, 85, 86, 87, 88, 89, 90, 91, 92, 93, 94, 95, 96, 97, 98] (fun q e' w' => ∃ (i : Nat) (D : Dk) (av : Value), q = b.length - i ∧ i ≤ b.length ∧ e' 14 = .int .i64 i ∧ e' 12 = av ∧ LS D (X ++ (b.take i).flatten) X ((b.take i).flatten.map St.grow) ∧ WF D (2 * lsum a + 1 + 2 * lsum (b.take i)) ∧ FA p W.heap.size (fun x => (Value.slice A5 X.length c5).ownBlock = some x ∨ av.ownBlock = some x) w' D ∧ Bs W.heap.size 5 w' (.slice A5 X.length c5) X ∧ Bs W.heap.size 5 w' av (X ++ (b.take i).flatten) ∧ (∀ x, (Value.slice A5 X.length c5).ownBlock = some x → av.ownBlock ≠ some x) ∧ Ext W w') (b.length) ?_ ?_
              · exact ⟨0, D5, av, by omega, by omega, rfl, rfl, by simpa using hL5, hwf5.mono (by omega), hFA6, hOs6, by simpa using hO6, hne6, hX6⟩
              intro k g w' hI
              obtain ⟨i, D, av, hq4, hi4, h14, h12, hLS, hwf, hFA, hOs, hO, hne, hX⟩ := hI
              have hls := lsum_le b i
              have hflb := flat_len (b.take i)
              refine W_set (i := 14) h14 ?_
              refine W_set (i := 12) h12 ?_
              refine W_seq ?_
              refine W_seq ?_
              refine W_region ?_
              refine op rfl (r_moveV (v := .int _ _) rfl) ?_
              refine op rfl (r_moveV (v := .slice _ _ _) rfl) ?_
              refine op rfl (r_len_slice rfl Try.underlying22) ?_
              refine op rfl (r_lss rfl rfl) ?_
              refine WL_nil ?_
              refine W_ifp rfl (fun ht84 => ?_) (fun ht84 => ?_)
              · have hlt : i < b.length := by omega
                obtain ⟨ga, oa, Ai, ci, hAe, hga, hcell, hci, hbig, hrow⟩ := Ty.Row.cellS hB hlt
                have hlsum := lsum_succ hlt
                have hls2 := lsum_le b (i + 1)
                have hXl : (X ++ (b.take i).flatten).length = X.length + lsum (b.take i) := by rw [List.length_append, hflb]
                obtain ⟨he2, hL2⟩ := hLS.append b[i] (by omega)
                have hwf2 := (hwf.append 1 b[i]).mono (m := 2 * lsum a + 1 + 2 * lsum (b.take (i + 1))) (by omega)
                have hcellX := ext_cell hX hcell
                have hrowX : Ty.byte.Row w' (old W) Ai b[i] := hrow.keep hX.same (fun _ h => h)
                refine W_skip ?_
                refine W_seq ?_
                refine W_block ?_
                refine W_seq ?_
                refine W_region ?_
                refine op rfl (r_moveV (v := .pointer _) rfl) ?_
                refine op rfl (r_moveV (v := .slice _ _ _) rfl) ?_
                refine op rfl (r_moveV (v := .int _ _) rfl) ?_
                refine op rfl (r_indexAddr1 rfl rfl hAe Try.underlying22 Try.sz23 (by omega) (by omega)) ?_
                refine op rfl (r_load (v := .slice Ai b[i].length ci) rfl Try.underlying23 rfl hcellX) ?_
                refine opCv rfl (r_call Try.func12 Try.nm12 rfl) (append_fa hFA hwf (by omega) 1 Ai ci b[i] (by omega) (G := old W) (fun x hx ↦ hx) hrowX) ?_
                rintro v w3 ⟨rfl, hFA3, hFo3⟩
                have hX3 : Ext W w3 := Below.trans hX hFo3.below
                have hO3 := own_fo hO (fun b q => Or.inr q) hFo3
                have hOs3 := own_fo hOs (fun b q => Or.inl q) hFo3
                have hcellX3 := ext_cell hX3 hcell
                generalize (D.append 1 b[i]).1 = D' at hL2 hwf2 hFA3
                refine WL_nil ?_
                refine W_region ?_
                refine op rfl (r_moveV (v := av) rfl) ?_
                refine op rfl (r_moveV (v := .slice _ _ _) rfl) ?_
                refine op rfl (r_moveV (v := .int _ _) rfl) ?_
                refine op rfl (r_indexAddr1 rfl rfl hAe Try.underlying22 Try.sz23 (by omega) (by omega)) ?_
                refine op rfl (r_load (v := .slice Ai b[i].length ci) rfl Try.underlying23 rfl hcellX3) ?_
                obtain ⟨av', w4, hr, hO4, hG, hv⟩ := append_run (c := ci) hX3.size hO3 (hrowX.keep (hFo3.below.same' (Nat.le_refl _)) (fun _ h => h)) (by omega)
                have hX4 : Ext W w4 := Below.trans hX3 (below_gro hO3 (Nat.le_refl _) hG hX3.size)
                have hOs4 := own_gro hOs3 hG hne
                have hne4 : ∀ x, (Value.slice A5 X.length c5).ownBlock = some x → av'.ownBlock ≠ some x := fun x q q2 => by
                  have h1 := (hOs3.lt q).2
                  rcases hv with h | ⟨g, h, hg⟩
                  · rw [q2] at h; exact hne x q h.symm
                  · rw [q2] at h; cases h; omega
                have hFA4 : FA p W.heap.size (fun x => (Value.slice A5 X.length c5).ownBlock = some x ∨ av'.ownBlock = some x) w4 D' := (hFA3.gro (v := av) (fun b q => Or.inr q) hG hv (fun b q => (hO4.lt q).2)).weak (fun b q => q.elim (fun q => Or.inl (Or.inl q)) Or.inr)
                refine op rfl (r_append rfl rfl hr) ?_
                refine op rfl (r_assignV (v := av') rfl) ?_
                refine WL_nil ?_
                refine W_region ?_
                refine op rfl (r_moveV (v := .int _ _) rfl) ?_
                refine op rfl (r_add' rfl rfl (wrap_i64 (by omega) (by omega))) ?_
                refine op rfl (r_assignV (v := .int _ _) rfl) ?_
                refine WL_nil ?_
                refine ⟨?_, by repeat (first | with_reducible exact Out.refl _ _ | with_reducible exact Out.mix | refine Out.put rfl ?_ | refine Out.mixin rfl ?_ | exact Out.refl _ _ | exact Out.mix)⟩
                rw [List.append_assoc, ← flat_succ hlt] at hO4
                rw [← List.map_append, List.append_assoc, ← flat_succ hlt] at hL2
                exact ⟨b.length - (i + 1), by omega, i + 1, D', av', rfl, by omega, rfl, rfl, hL2, hwf2, hFA4, hOs4, hO4, hne4, hX4⟩
              · obtain rfl : i = b.length := by omega
                rw [List.take_length] at hLS hwf hO hls hflb
                generalize hYe : b.flatten = Y at hLS hO hflb
                obtain ⟨k1, k2, k3⟩ := hLS.restart keep
                have k0 := hLS.read1
                have hwf8 := hwf.restart keep
                obtain ⟨m, hm⟩ : ∃ m : Nat, (max 0 (min keep (Y.length : Nat)) : Int) = (m : Int) := ⟨(max 0 (min keep (Y.length : Nat))).toNat, by omega⟩
                have hmY : m ≤ Y.length := by omega
                have htk : Y.take keep.toNat = Y.take m := by rw [List.take_eq_take_iff]; omega
                have hXY : (X ++ Y).length = X.length + Y.length := List.length_append
                refine W_exit (blk_hit ?_)
                refine W_seq ?_
                refine W_region ?_
                refine op rfl (r_moveV (v := .pointer _) rfl) ?_
                refine opCv rfl (r_call Try.func14 Try.nm14 rfl) (read_fa hFA hwf (by omega) 1) ?_
                rintro ws w7 ⟨hE7, hOw, hFA7⟩
                rw [k0] at hOw
                have hX7 := hX.trans hE7
                have hOs7 := own_fext hOs hE7
                have hO7 := own_fext hO hE7
                refine op rfl (r_assignV (v := ws) rfl) ?_
                refine WL_nil ?_
                refine W_seq ?_
                refine W_region ?_
                refine op rfl (r_moveV (v := .pointer _) rfl) ?_
                refine op rfl (r_moveV (v := .int _ _) rfl) ?_
                refine opCv rfl (r_call Try.func15 Try.nm15 rfl) (restart_fa hFA7 hwf (by omega) keep) ?_
                rintro v w8 ⟨hFA8, hFo8⟩
                have hX8 : Ext W w8 := Below.trans hX7 hFo8.below
                have hOs8 := own_fo hOs7 (fun b q => Or.inl (Or.inl q)) hFo8
                have hO8 := own_fo hO7 (fun b q => Or.inl (Or.inr q)) hFo8
                have hOw8 := own_fo hOw (fun b q => Or.inr q) hFo8
                generalize D.restart keep = D8 at k1 k2 k3 hwf8 hFA8
                refine WL_nil ?_
                refine W_seq ?_
                refine W_region ?_
                refine op rfl (r_moveV (v := .pointer _) rfl) ?_
                refine opCv rfl (r_call Try.func14 Try.nm14 rfl) (read_fa hFA8 hwf8 (by omega) 1) ?_
                rintro nw w9 ⟨hE9, hOn, hFA9⟩
                rw [k1, htk] at hOn
                have hX9 := hX8.trans hE9
                have hO9 := own_fext hO8 hE9
                have hOw9 := own_fext hOw8 hE9
                obtain ⟨A9, c9, h9a, hc9, hr9⟩ := own_frow hO9
                obtain ⟨A10, c10, h10a, hc10, hr10⟩ := own_frow hOw9
                obtain ⟨A11, c11, h11a, hc11, hr11⟩ := own_frow hOn
                subst h9a
                subst h10a
                subst h11a
                refine op rfl (r_assignV (v := .slice A11 (X ++ Y.take m).length c11) rfl) ?_
                refine WL_nil ?_
                refine W_seq ?_
                refine W_region ?_
                refine op rfl (r_moveV (v := .slice A5 X.length c5) rfl) ?_
                refine op rfl (r_len_slice rfl Try.underlying23) ?_
                refine op rfl (r_moveV (v := .int _ _) rfl) ?_
                refine op rfl (r_moveV (v := .slice A9 (X ++ Y).length c9) rfl) ?_
                refine op rfl (r_len_slice rfl Try.underlying23) ?_
                refine op rfl (r_moveV (v := .slice A5 X.length c5) rfl) ?_
                refine op rfl (r_len_slice rfl Try.underlying23) ?_
                refine op rfl (r_sub' (r := (Y.length : Int)) rfl rfl (by rw [hXY, wrap_i64 (by omega) (by omega)]; omega)) ?_
                refine op rfl (r_min2 rfl rfl) ?_
                refine op rfl ((show _ = Result.ok (Next.value (.int .i64 (m : Int))) _ from by rw [← hm]; exact r_max2 rfl rfl)) ?_
                refine op rfl (r_add' (r := ((X.length + m : Nat) : Int)) rfl rfl (by rw [wrap_i64 (by omega) (by omega)]; omega)) ?_
                refine op rfl (r_assignV (v := .int _ _) rfl) ?_
                refine WL_nil ?_
                refine W_seq ?_
                refine W_region ?_
                refine op rfl (r_moveV (v := .slice A10 (X ++ Y).length c10) rfl) ?_
                refine op rfl (r_moveV (v := .slice A9 (X ++ Y).length c9) rfl) ?_
                refine opCv rfl (r_call Try.func16 Try.nm16 rfl) (same_spec A10 c10 _ A9 c9 _ _ hr10 hr9) ?_
                rintro v w10 ⟨rfl, hE10⟩
                have hml : ((X ++ Y).take (X.length + m)).length = X.length + m := by simp; omega
                have SS := same_spec A11 c11 (X ++ Y.take m) A9 c9 ((X ++ Y).take (X.length + m)) w10 (hr11.ext hE10) ((hr9.ext hE10).take (X.length + m))
                rw [hml] at SS
                refine op_true rfl (r_moveV (v := .bool (decide _)) rfl) (rfl) ?_
                refine opG_yes rfl rfl rfl rfl rfl (r_moveV (v := .slice A11 (X ++ Y.take m).length c11) rfl) ?_
                refine opG_yes rfl rfl rfl rfl rfl (r_moveV (v := .slice A9 (X ++ Y).length c9) rfl) ?_
                refine opG_yes rfl rfl rfl rfl rfl (r_moveV (v := .int _ _) rfl) ?_
                refine opG_yes rfl rfl rfl rfl rfl (r_sliceHi (j := X.length + m) rfl rfl Try.underlying23 Try.sz5 (by omega)) ?_
                refine opGCv_yes rfl rfl rfl rfl rfl (r_call Try.func16 Try.nm16 rfl) (SS) ?_
                rintro v w11 ⟨rfl, hE11⟩
                refine op rfl (r_pickTV (v := .bool _) rfl rfl) ?_
                refine op_true rfl (r_moveV (v := .bool (decide _)) rfl) (by rw [List.take_append, List.take_of_length_le (Nat.le_add_right _ _), Nat.add_sub_cancel_left]) ?_
                refine opG_yes rfl rfl rfl rfl rfl (r_moveV (v := .pointer _) rfl) ?_
                refine opGCv_yes rfl rfl rfl rfl rfl (r_call Try.func17 Try.nm17 rfl) (lasting_da ((hFA9.da.ext hE10).ext hE11) hwf8 (by omega) 1) ?_
                rintro v w12 ⟨A12, c12, rfl, hE12, hr12⟩
                refine opG_yes rfl rfl rfl rfl rfl (r_moveV (v := .slice A11 (X ++ Y.take m).length c11) rfl) ?_
                refine opGCv_yes rfl rfl rfl rfl rfl (r_call Try.func16 Try.nm16 rfl) (same_spec A12 c12 _ A11 c11 _ _ hr12 (((hr11.ext hE10).ext hE11).ext hE12)) ?_
                rintro v w13 ⟨rfl, hE13⟩
                refine op rfl (r_pickTV (v := .bool _) rfl rfl) ?_
                refine op_true rfl (r_moveV (v := .bool (decide _)) rfl) (by rw [k2, htk]) ?_
                refine opG_yes rfl rfl rfl rfl rfl (r_moveV (v := .pointer _) rfl) ?_
                refine opGCv_yes rfl rfl rfl rfl rfl (r_call Try.func14 Try.nm14 rfl) (read_da ((((hFA9.da.ext hE10).ext hE11).ext hE12).ext hE13) hwf8 (by omega) 0) ?_
                rintro v w14 ⟨A14, c14, rfl, hE14, hr14⟩
                refine opG_yes rfl rfl rfl rfl rfl (r_len_slice rfl Try.underlying23) ?_
                refine opG_yes rfl rfl rfl rfl rfl (r_eql rfl rfl) ?_
                refine op rfl (r_pickTV (v := .bool _) rfl rfl) ?_
                refine op_true rfl (r_moveV (v := .bool (decide _)) rfl) (by rw [k3]; rfl) ?_
                refine opGCv_yes rfl rfl rfl rfl rfl (r_call Try.func10 Try.nm10 rfl) (known_spec _) ?_
                rintro v w15 ⟨rfl, hE15⟩
                refine op rfl (r_pickTV (v := .bool _) rfl rfl) ?_
                refine op rfl (r_assignV (v := .bool _) rfl) ?_
                refine WL_nil ?_
                refine W_ret (finX_ret ?_)
                refine fin1 ?_
                first
                  | exact ⟨_, rfl, rfl, hE2⟩
                  | exact ⟨_, rfl, rfl, (((((hX9.trans hE10).trans hE11).trans hE12).trans hE13).trans hE14).trans hE15⟩
end Go.Proofs.Ytfgffaphpedimaa
