/-
  Each state that is laid is of a number one more: the walk.
-/
import Derived.Test.YtlidigdlcjhkfaaFacts
import Derived.Test.YtlidigdlcjhkfaaJnlN
import Derived.Test.YtlidigdlcjhkfaaJnlD
namespace Go.Proofs.Ytlidigdlcjhkfaa
open Go Go.Eng Go.RowKit Go.Proofs
set_option linter.unusedVariables false
set_option linter.unusedSimpArgs false
set_option maxHeartbeats 8000000
set_option maxRecDepth 20000

theorem journalSeqs_walk (W : World) (Ao : Option Addr) (co : Nat) (l : List (List UInt8)) (hco : l.length ≤ co) (hl : l.length ≤ big) (hA : Ty.byte.slice.Row W (old W) Ao l) :
    Calls Try.prog 5 #[.slice Ao l.length co] W (fun e W' => ∃ v, e = .returned v ∧ v = .bool true ∧ Ext W W') := by
  have hl' : l.length ≤ 140737488355328 := hl
  clear hl
  refine calls' (n := 125) (rs := #[.tmp 2]) (l := [.slice Ao l.length co]) Try.func5 rfl rfl rfl rfl rfl ?_
  have hX := Ext.refl W
  refine W_seq ?_
  refine W_region ?_
  refine op rfl (r_assignV (v := .bool _) rfl) ?_
  refine WL_nil ?_
  refine W_seq ?_
  refine W_region ?_
  refine op rfl (r_assignV (v := .int _ _) rfl) ?_
  refine WL_nil ?_
  refine W_seq ?_
  refine W_seq ?_
  refine W_region ?_
  refine op rfl (r_assignV (v := .int _ _) rfl) ?_
  refine WL_nil ?_
  refine W_block ?_
  refine W_loop [3, 4, 15, 16, 17, 18, 19, 20, 21, 22, 23, 24, 25, 26, 27, 28] (fun q e' w' => ∃ (i : Nat) (s : Int), q = l.length - i ∧ i ≤ l.length ∧ e' 4 = .int .i64 i ∧ e' 3 = .int .i64 s ∧ (l.length ≤ 20 → s = i + (l.take i).flatten.length) ∧ (l.take i).flatten.length ≤ i * 140737488355328 ∧ Ext W w') (l.length) ?_ ?_
  · exact ⟨0, 0, by omega, by omega, rfl, rfl, fun _ => by simp, by simp, hX⟩
  intro k g w' hI
  obtain ⟨i, s, hq, hi, h8, h7, hs, hsb, hX'⟩ := hI
  clear hX
  have hX := hX'
  clear hX'
  refine W_set (i := 4) h8 ?_
  refine W_set (i := 3) h7 ?_
  refine W_seq ?_
  refine W_seq ?_
  refine W_region ?_
  refine op rfl (r_moveV (v := .int _ _) rfl) ?_
  refine op rfl (r_moveV (v := .slice _ _ _) rfl) ?_
  refine op rfl (r_len_slice rfl Try.underlying22) ?_
  refine op rfl (r_lss rfl rfl) ?_
  refine WL_nil ?_
  refine W_ifp rfl (fun ht18 => ?_) (fun ht18 => ?_)
  · have hlt : i < l.length := by omega
    obtain ⟨ga, oa, Ai, ci, hAe, hga, hcell, hci, hbig, hrow⟩ := Ty.Row.cellS (hA.ext hX) hlt
    have hbig' : l[i].length ≤ 140737488355328 := hbig
    refine W_skip ?_
    refine W_seq ?_
    refine W_block ?_
    refine W_region ?_
    refine op rfl (r_moveV (v := .int _ _) rfl) ?_
    refine op rfl (r_add rfl rfl) ?_
    refine op rfl (r_moveV (v := .slice _ _ _) rfl) ?_
    refine op rfl (r_moveV (v := .int _ _) rfl) ?_
    refine op rfl (r_indexAddr1 rfl rfl hAe Try.underlying22 Try.sz23 (by omega) (by omega)) ?_
    refine op rfl (r_load (v := .slice Ai l[i].length ci) rfl Try.underlying23 rfl hcell) ?_
    refine op rfl (r_len_slice rfl Try.underlying23) ?_
    refine op rfl (r_add rfl rfl) ?_
    refine op rfl (r_assignV (v := .int _ _) rfl) ?_
    refine WL_nil ?_
    refine W_region ?_
    refine op rfl (r_moveV (v := .int _ _) rfl) ?_
    refine op rfl (r_add' rfl rfl (wrap_i64 (by omega) (by omega))) ?_
    refine op rfl (r_assignV (v := .int _ _) rfl) ?_
    refine WL_nil ?_
    refine ⟨?_, by repeat (first | with_reducible exact Out.refl _ _ | with_reducible exact Out.mix | refine Out.put rfl ?_ | refine Out.mixin rfl ?_ | exact Out.refl _ _ | exact Out.mix)⟩
    refine ⟨l.length - (i + 1), by omega, i + 1, _, rfl, by omega, rfl, rfl, fun h20 => ?_, by rw [fl_succ hlt]; omega, hX⟩
    rw [hs h20, fl_succ hlt, wrap_i64 (x := (i : Int) + ((l.take i).flatten.length : Nat) + 1) (by omega) (by omega), wrap_i64 (by omega) (by omega)]
    omega
  · obtain rfl : i = l.length := by omega
    rw [List.take_length] at hs hsb
    obtain ⟨w0, hw0⟩ : ∃ w0, w0 = w' := ⟨_, rfl⟩
    subst hw0
    refine W_exit (blk_hit ?_)
    refine W_seq ?_
    refine W_seq ?_
    refine W_region ?_
    refine op rfl (r_moveV (v := .int _ _) rfl) ?_
    refine op rfl (r_gtr rfl rfl) ?_
    refine op_split rfl (r_moveV (v := .bool (decide _)) rfl) (fun hg31 => ?_) (fun hg31 => ?_)
    · refine opG_no rfl rfl rfl rfl rfl ?_
      refine opG_no rfl rfl rfl rfl rfl ?_
      refine opG_no rfl rfl rfl rfl rfl ?_
      refine op rfl (r_pickTV (v := .bool _) rfl rfl) ?_
      refine WL_nil ?_
      refine W_then rfl ?_
      refine W_seq ?_
      refine W_region ?_
      refine opCv rfl (r_call Try.func7 Try.nm7 rfl) (known_spec _) ?_
      rintro v w2 ⟨rfl, hE⟩
      replace hX := hX.trans hE
      refine op rfl (r_assignV (v := .bool _) rfl) ?_
      refine WL_nil ?_
      refine W_ret (finX_ret ?_)
      refine fin1 ?_
      exact ⟨_, rfl, rfl, hX⟩
    · refine opG_yes rfl rfl rfl rfl rfl (r_moveV (v := .slice _ _ _) rfl) ?_
      refine opG_yes rfl rfl rfl rfl rfl (r_len_slice rfl Try.underlying22) ?_
      refine opG_yes rfl rfl rfl rfl rfl (r_gtr rfl rfl) ?_
      refine op rfl (r_pickFV (v := .bool _) rfl rfl) ?_
      refine WL_nil ?_
      refine W_ifp rfl (fun ht35 => ?_) (fun ht35 => ?_)
      · refine W_seq ?_
        refine W_region ?_
        refine opCv rfl (r_call Try.func7 Try.nm7 rfl) (known_spec _) ?_
        rintro v w2 ⟨rfl, hE⟩
        replace hX := hX.trans hE
        refine op rfl (r_assignV (v := .bool _) rfl) ?_
        refine WL_nil ?_
        refine W_ret (finX_ret ?_)
        refine fin1 ?_
        exact ⟨_, rfl, rfl, hX⟩
      · have hn20 : l.length ≤ 20 := by omega
        have hsum : l.length + l.flatten.length ≤ 800 := by have := hs hn20; omega
        have hmem : ∀ x ∈ l, x.length ≤ 800 := fun x hx => by have := flat_mem_le hx; omega
        clear hs hsb
        have i0 := Inv.new 90000 (by omega)
        have l0 := live_new 3 90000
        rw [show ((90000 : Nat) : Int) = 90000 from rfl] at i0
        have f0 := WF.new 3 90000
        obtain ⟨q0, _, _, o0⟩ := i0.open l0 (by decide) (by simp)
        have hX8 := hX
        refine W_skip ?_
        refine W_seq ?_
        refine W_region ?_
        refine opCv rfl (r_call Try.func8 Try.nm8 rfl) (new_da 3 90000 _) ?_
        rintro v w1 ⟨p, rfl, hE, hD0⟩
        replace hX := hX.trans hE
        refine op rfl (r_assignV (v := .pointer _) rfl) ?_
        refine WL_nil ?_
        refine W_seq ?_
        refine W_region ?_
        refine op rfl (r_moveV (v := .pointer _) rfl) ?_
        refine opCv rfl (r_call Try.func9 Try.nm9 rfl) (open_spec hD0.fa f0 (by omega) l0 i0.al.n) ?_
        rintro v w2 ⟨F2, jb, A1, c1, A2, c2, rfl, hF2, hJ2, _, _, _, _, hFo2⟩
        rw [q0, o0] at hJ2
        have hX2 : Ext W w2 := Below.trans hX (hFo2.below.mono hX8.size)
        replace hX := hX2
        generalize Dk.new 3 90000 = D0 at *
        refine op rfl (r_moveV (v := .tuple #[jq jb, .slice A1 D0.stateOf.length c1, .slice A2 D0.recsOf.1.length c2, .int .i64 0]) rfl) ?_
        refine op rfl (r_extract (vs := [jq jb, .slice A1 D0.stateOf.length c1, .slice A2 D0.recsOf.1.length c2, .int .i64 0]) rfl rfl) ?_
        refine op rfl (r_extract (vs := [jq jb, .slice A1 D0.stateOf.length c1, .slice A2 D0.recsOf.1.length c2, .int .i64 0]) rfl rfl) ?_
        refine op rfl (r_extract (vs := [jq jb, .slice A1 D0.stateOf.length c1, .slice A2 D0.recsOf.1.length c2, .int .i64 0]) rfl rfl) ?_
        refine op rfl (r_extract (vs := [jq jb, .slice A1 D0.stateOf.length c1, .slice A2 D0.recsOf.1.length c2, .int .i64 0]) rfl rfl) ?_
        refine op rfl (r_assignV (v := jq jb) rfl) ?_
        refine op rfl (r_assignV (v := .slice A1 D0.stateOf.length c1) rfl) ?_
        refine op rfl (r_assignV (v := .slice A2 D0.recsOf.1.length c2) rfl) ?_
        refine op rfl (r_assignV (v := .int .i64 0) rfl) ?_
        refine WL_nil ?_
        refine W_seq ?_
        refine W_seq ?_
        refine W_region ?_
        refine op rfl (r_moveV (v := .int .i64 0) rfl) ?_
        refine op rfl (r_neq rfl rfl) ?_
        refine WL_nil ?_
        refine W_ifp rfl (fun ht46 => ?_) (fun ht46 => ?_)
        · exact absurd rfl ht46
        · refine W_skip ?_
          refine W_seq ?_
          refine W_seq ?_
          refine W_region ?_
          refine op rfl (r_assignV (v := .int _ _) rfl) ?_
          refine WL_nil ?_
          refine W_block ?_
          refine W_loop (2 :: 10 :: 11 :: 12 :: 13 :: 14 :: 47 :: 48 :: 49 :: 50 :: 51 :: 52 :: 53 :: 54 :: 55 :: 56 :: 57 :: 58 :: 59 :: 60 :: 61 :: 62 :: 63 :: 64 :: 65 :: 66 :: 67 :: 68 :: 69 :: 70 :: 71 :: 72 :: 73 :: 74 :: 75 :: 76 :: 77 :: 78 :: 79 :: 80 :: 81 :: 82 :: 83 :: 84 :: 85 :: 86 :: 87 :: 88 :: 89 :: 90 :: 91 :: 92 :: 93 :: 94 :: 95 :: 96 :: 97 :: 98 :: 99 :: 100 :: 101 :: 102 :: 103 :: 104 :: 105 :: 106 :: 107 :: 108 :: 109 :: 110 :: 111 :: 112 :: 113 :: 114 :: 115 :: 116 :: 117 :: 118 :: 119 :: 120 :: 121 :: 122 :: 123 :: []) (fun q e' w' => ∃ (i : Nat) (D : Dk) (st : List UInt8) (A O C : Ar) (F : Nat → Prop), q = l.length - i ∧ i ≤ l.length ∧ e' 10 = .int .i64 i ∧ Inv D 90000 i st [] 0 A O C ∧ Live D ∧ A.now.length ≤ 900 ∧ O.now.length ≤ 900 ∧ C.now = [] ∧ WF D (i * 5000) ∧ JA jb p w0.heap.size F w' D i ∧ Ext W w') (l.length) ?_ ?_
          · exact ⟨0, D0, [], e3, e3, e3, F2, by omega, by omega, rfl, i0, l0, Nat.zero_le _, Nat.zero_le _, rfl, f0, hJ2, hX⟩
          intro k g w' hI
          obtain ⟨i, D, st, A, O, C, F, hq2, hi2, h10, hInv, hLv, hAn, hOn, hCn, hWF, hJ, hX'⟩ := hI
          clear hX
          have hX := hX'
          clear hX'
          refine W_set (i := 10) h10 ?_
          refine W_seq ?_
          refine W_seq ?_
          refine W_region ?_
          refine op rfl (r_moveV (v := .int _ _) rfl) ?_
          refine op rfl (r_moveV (v := .slice _ _ _) rfl) ?_
          refine op rfl (r_len_slice rfl Try.underlying22) ?_
          refine op rfl (r_lss rfl rfl) ?_
          refine WL_nil ?_
          refine W_ifp rfl (fun ht50 => ?_) (fun ht50 => ?_)
          · have hlt : i < l.length := by omega
            obtain ⟨ga, oa, Ai, ci, hAe, hga, hcell, hci, hbig, hrow⟩ := Ty.Row.cellS hA hlt
            have hxi := hmem _ (List.getElem_mem hlt)
            have hr1 := rec1_len i l[i]
            obtain ⟨a1, C1, hI1, hC1⟩ := (hInv.append l[i] (by rw [hCn]; simp only [List.length_nil]; omega)).resolve_right (fun q => (live_appendL hLv 2 _).2 q.1)
            have hL1 := (live_appendL hLv 2 (rec1 i l[i])).1
            have f1 := hWF.append 2 (rec1 i l[i])
            rw [hCn, List.nil_append] at hC1
            generalize hD1 : (D.append 2 (rec1 i l[i])).1 = D1 at *
            obtain ⟨z, C2, hI2, hC2⟩ := (hI1.ckpt l[i] (by omega) (by omega) (fun y hy => by have e : y = l[i] := by simpa using hy
                                                                                             rw [e]; omega) (by rw [hC1, hr1]; omega)).resolve_right (by rintro ⟨k, hk, _, q, _⟩; exact (live_stg hL1 i l[i] (k + 1) (by omega)).2 q)
            have hL2 := (live_stg hL1 i l[i] 5 (by omega)).1
            have f2 := f1.stg i l[i] (i := 5) (by omega)
            generalize hD2 : (D1.stg i l[i] 5).1 = D2 at *
            obtain ⟨s2, st2, rc2, op2⟩ := hI2.open hL2 (by omega) (by simp)
            have rd2 := hI2.read2 hL2
            rw [hC2] at rd2
            have rdA := hI2.readA hL2
            have rl2 : (D2.read ((sl i : Nat) : Int)).length = 16 + l[i].length := by rw [← rec1_len (i + 1) l[i]]; exact congrArg List.length rdA
            refine W_skip ?_
            refine W_seq ?_
            refine W_block ?_
            refine W_seq ?_
            refine W_region ?_
            refine op rfl (r_moveV (v := jq jb) rfl) ?_
            refine op rfl (r_moveV (v := .slice _ _ _) rfl) ?_
            refine op rfl (r_moveV (v := .int _ _) rfl) ?_
            refine op rfl (r_indexAddr1 rfl rfl hAe Try.underlying22 Try.sz23 (by omega) (by omega)) ?_
            refine op rfl (r_load (v := .slice Ai l[i].length ci) rfl Try.underlying23 rfl (ext_cell hX hcell)) ?_
            refine opCv rfl (r_call Try.func10 Try.nm10 rfl) (jappend_spec hJ (by omega) hWF (by omega) Ai ci l[i] hci (by omega) (hrow.ext hX)) ?_
            rintro v w3 ⟨rfl, hJ3, hFo3⟩
            rw [hD1] at hJ3
            have hX3 : Ext W w3 := Below.trans hX (hFo3.below.mono hX8.size)
            replace hX := hX3
            refine WL_nil ?_
            refine W_seq ?_
            refine W_seq ?_
            refine W_drawA Try.wd rfl ?_
            intro wd16 hD
            have hS : anyW wd16 := trivial
            replace hX := hX.trans hD
            refine A_take (i := 0) rfl (by kernel_rfl) (by kernel_rfl) (by kernel_rfl) rfl hS (fun _ hw => r_moveV (v := jq jb) rfl) ?_
            refine A_take (i := 1) rfl (by kernel_rfl) (by kernel_rfl) (by kernel_rfl) rfl hS (fun _ hw => r_moveV (v := .slice _ _ _) rfl) ?_
            refine A_take (i := 2) rfl (by kernel_rfl) (by kernel_rfl) (by kernel_rfl) rfl hS (fun _ hw => r_moveV (v := .int _ _) rfl) ?_
            refine A_take (i := 3) rfl (by kernel_rfl) (by kernel_rfl) (by kernel_rfl) rfl hS (fun _ hw => r_indexAddr1 rfl rfl hAe Try.underlying22 Try.sz23 (by omega) (by omega)) ?_
            refine A_ready1 (i := 4) (by kernel_rfl) ?_
            refine O_val rfl rfl (r_load (v := .slice Ai l[i].length ci) rfl Try.underlying23 rfl (ext_cell hX hcell)) (hS) ?_
            refine A_ready1 (i := 5) (by kernel_rfl) ?_
            refine O_call rfl rfl (r_call Try.func16 Try.nm16 rfl) (ckpt_spec (hJ3.ext hD) f1 (by rw [hr1]; omega) (by omega) Ai ci l[i] hci (by omega) (hrow.ext hX)) ?_
            rintro v w4 ⟨e, rfl, D', s', hCk, hJ4, hFo4⟩
            replace hS := trivial
            refine ⟨hS, ?_⟩
            obtain ⟨rfl, rfl, rfl⟩ := hCk.ok_of z
            rw [hD2] at hJ4
            have hX4 : Ext W w4 := Below.trans hX (hFo4.below.mono hX8.size)
            replace hX := hX4
            refine A_take (i := 6) rfl (by kernel_rfl) (by kernel_rfl) (by kernel_rfl) rfl hS (fun _ hw => r_neq rfl rfl) ?_
            refine A_false (i := 7) rfl (by kernel_rfl) (by kernel_rfl) (by kernel_rfl) rfl hS (fun _ _ => r_moveV (v := .bool (decide _)) rfl) (fun h => h rfl) ?_
            refine A_takeG (i := 8) rfl (by kernel_rfl) (by kernel_rfl) (by kernel_rfl) rfl hS rfl rfl rfl rfl (fun _ hw => r_moveV (v := jq jb) rfl) ?_
            refine A_takeG (i := 10) rfl (by kernel_rfl) (by kernel_rfl) (by kernel_rfl) rfl hS rfl rfl rfl rfl (fun _ hw => r_moveV (v := .int _ _) rfl) ?_
            refine A_takeG (i := 11) rfl (by kernel_rfl) (by kernel_rfl) (by kernel_rfl) rfl hS rfl rfl rfl rfl (fun _ hw => r_conv' (r := (i : Int)) rfl Try.underlying3 Try.underlying42 (wrap_u64 (by omega) (by omega))) ?_
            refine A_takeG (i := 12) rfl (by kernel_rfl) (by kernel_rfl) (by kernel_rfl) rfl hS rfl rfl rfl rfl (fun _ hw => r_add' (r := ((i + 1 : Nat) : Int)) rfl rfl (by rw [wrap_u64 (by omega) (by omega)]; omega)) ?_
            refine A_ready1 (i := 9) (by kernel_rfl) ?_
            refine O_callG rfl rfl rfl rfl rfl rfl (r_call Try.func19 Try.nm19 rfl) (jseq_spec hJ4) ?_
            rintro v w5 ⟨rfl, hE⟩
            replace hS := trivial
            refine ⟨hS, ?_⟩
            replace hX := hX.trans hE
            refine A_takeG (i := 13) rfl (by kernel_rfl) (by kernel_rfl) (by kernel_rfl) rfl hS rfl rfl rfl rfl (fun _ hw => r_neq rfl rfl) ?_
            refine A_take (i := 14) rfl (by kernel_rfl) (by kernel_rfl) (by kernel_rfl) rfl hS (fun _ hw => r_pickFV (v := .bool _) rfl rfl) ?_
            refine A_false (i := 15) rfl (by kernel_rfl) (by kernel_rfl) (by kernel_rfl) rfl hS (fun _ _ => r_moveV (v := .bool (decide _)) rfl) (fun h => h rfl) ?_
            refine A_takeG (i := 16) rfl (by kernel_rfl) (by kernel_rfl) (by kernel_rfl) rfl hS rfl rfl rfl rfl (fun _ hw => r_moveV (v := jq jb) rfl) ?_
            refine A_ready1 (i := 17) (by kernel_rfl) ?_
            refine O_callG rfl rfl rfl rfl rfl rfl (r_call Try.func12 Try.nm12 rfl) (jused_spec (hJ4.ext hE) f2 (by rw [hr1]; omega)) ?_
            rintro v w6 ⟨rfl, hE2⟩
            replace hS := trivial
            refine ⟨hS, ?_⟩
            replace hX := hX.trans hE2
            have hJ5 := (hJ4.ext hE).ext hE2
            refine A_takeG (i := 18) rfl (by kernel_rfl) (by kernel_rfl) (by kernel_rfl) rfl hS rfl rfl rfl rfl (fun _ hw => r_neq rfl rfl) ?_
            refine A_take (i := 19) rfl (by kernel_rfl) (by kernel_rfl) (by kernel_rfl) rfl hS (fun _ hw => r_pickFV (v := .bool _) rfl rfl) ?_
            refine A_false (i := 20) rfl (by kernel_rfl) (by kernel_rfl) (by kernel_rfl) rfl hS (fun _ _ => r_moveV (v := .bool (decide _)) rfl) (fun h => h (by rw [rd2]; rfl)) ?_
            refine A_takeG (i := 21) rfl (by kernel_rfl) (by kernel_rfl) (by kernel_rfl) rfl hS rfl rfl rfl rfl (fun _ hw => r_moveV (v := .pointer _) rfl) ?_
            refine A_takeG (i := 22) rfl (by kernel_rfl) (by kernel_rfl) (by kernel_rfl) rfl hS rfl rfl rfl rfl (fun _ hw => r_moveV (v := .int _ _) rfl) ?_
            refine A_takeG (i := 23) rfl (by kernel_rfl) (by kernel_rfl) (by kernel_rfl) rfl hS rfl rfl rfl rfl (fun _ hw => r_add' (r := ((i + 1 : Nat) : Int)) rfl rfl (by rw [wrap_i64 (by omega) (by omega)]; omega)) ?_
            refine A_takeG (i := 24) rfl (by kernel_rfl) (by kernel_rfl) (by kernel_rfl) rfl hS rfl rfl rfl rfl (fun _ hw => r_rem' (r := ((sl i : Nat) : Int)) rfl rfl (by omega) (by rw [Int.tmod_eq_emod_of_nonneg (by omega)]; unfold sl; omega)) ?_
            refine A_takeG (i := 27) rfl (by kernel_rfl) (by kernel_rfl) (by kernel_rfl) rfl hS rfl rfl rfl rfl (fun _ hw => r_moveV (v := .slice _ _ _) rfl) ?_
            refine A_takeG (i := 28) rfl (by kernel_rfl) (by kernel_rfl) (by kernel_rfl) rfl hS rfl rfl rfl rfl (fun _ hw => r_moveV (v := .int _ _) rfl) ?_
            refine A_takeG (i := 29) rfl (by kernel_rfl) (by kernel_rfl) (by kernel_rfl) rfl hS rfl rfl rfl rfl (fun _ hw => r_indexAddr1 rfl rfl hAe Try.underlying22 Try.sz23 (by omega) (by omega)) ?_
            refine A_ready2 (i := 25) (j := 30) (by kernel_rfl) ?_ ?_
            · refine O_callG rfl rfl rfl rfl rfl rfl (r_call Try.func20 Try.nm20 rfl) (read_da' hJ5.fa.da f2 (by rw [hr1]; omega) (sl i : Nat)) ?_
              rintro v w7 ⟨A8, c8, rfl, hE, hc8, hr8⟩
              replace hS := trivial
              refine ⟨hS, ?_⟩
              replace hX := hX.trans hE
              have hJ7 := hJ5.ext hE
              refine A_takeG (i := 26) rfl (by kernel_rfl) (by kernel_rfl) (by kernel_rfl) rfl hS rfl rfl rfl rfl (fun _ hw => r_len_slice rfl Try.underlying23) ?_
              refine A_ready1 (i := 30) (by kernel_rfl) ?_
              refine O_valG rfl rfl rfl rfl rfl rfl (r_load (v := .slice Ai l[i].length ci) rfl Try.underlying23 rfl (ext_cell hX hcell)) (hS) ?_
              refine A_takeG (i := 31) rfl (by kernel_rfl) (by kernel_rfl) (by kernel_rfl) rfl hS rfl rfl rfl rfl (fun _ hw => r_len_slice rfl Try.underlying23) ?_
              refine A_takeG (i := 32) rfl (by kernel_rfl) (by kernel_rfl) (by kernel_rfl) rfl hS rfl rfl rfl rfl (fun _ hw => r_add' (k := .i64) (m := 16) (n := ((l[i].length : Nat) : Int)) (r := ((16 + l[i].length : Nat) : Int)) rfl rfl (by rw [wrap_i64 (by omega) (by omega)]; omega)) ?_
              refine A_takeG (i := 33) rfl (by kernel_rfl) (by kernel_rfl) (by kernel_rfl) rfl hS rfl rfl rfl rfl (fun _ hw => r_neq rfl rfl) ?_
              refine A_take (i := 34) rfl (by kernel_rfl) (by kernel_rfl) (by kernel_rfl) rfl hS (fun _ hw => r_pickFV (v := .bool _) rfl rfl) ?_
              refine A_done (by kernel_rfl) ?_
              refine W_ifp rfl (fun ht93 => ?_) (fun ht93 => ?_)
              · exact absurd (by rw [rl2]) ht93
              · refine W_skip ?_
                refine W_seq ?_
                refine W_region ?_
                refine op rfl (r_moveV (v := .pointer _) rfl) ?_
                refine opCv rfl (r_call Try.func9 Try.nm9 rfl) (open_spec hJ7.fa f2 (by rw [hr1]; omega) hL2 hI2.al.n) ?_
                rintro v w8 ⟨F6, jb6, A6, c6, A7, c7, rfl, hF6, hJ8, hc6, hr6, hc7, hr7, hFo8⟩
                rw [op2] at hJ8
                have hJ9 : JA jb p w0.heap.size F6 w8 D2 (i + 1) := ⟨hJ7.bj.at (hFo8.same _ hJ7.fj), hJ8.fa, hF6 _ hJ7.fj, hJ7.lo⟩
                have hX8' : Ext W w8 := Below.trans hX (hFo8.below.mono hX8.size)
                replace hX := hX8'
                refine op rfl (r_moveV (v := .tuple #[jq jb6, .slice A6 D2.stateOf.length c6, .slice A7 D2.recsOf.1.length c7, .int .i64 0]) rfl) ?_
                refine op rfl (r_extract (vs := [jq jb6, .slice A6 D2.stateOf.length c6, .slice A7 D2.recsOf.1.length c7, .int .i64 0]) rfl rfl) ?_
                refine op rfl (r_extract (vs := [jq jb6, .slice A6 D2.stateOf.length c6, .slice A7 D2.recsOf.1.length c7, .int .i64 0]) rfl rfl) ?_
                refine op rfl (r_extract (vs := [jq jb6, .slice A6 D2.stateOf.length c6, .slice A7 D2.recsOf.1.length c7, .int .i64 0]) rfl rfl) ?_
                refine op rfl (r_extract (vs := [jq jb6, .slice A6 D2.stateOf.length c6, .slice A7 D2.recsOf.1.length c7, .int .i64 0]) rfl rfl) ?_
                refine op rfl (r_assignV (v := jq jb6) rfl) ?_
                refine op rfl (r_assignV (v := .slice A6 D2.stateOf.length c6) rfl) ?_
                refine op rfl (r_assignV (v := .slice A7 D2.recsOf.1.length c7) rfl) ?_
                refine op rfl (r_assignV (v := .int .i64 0) rfl) ?_
                refine WL_nil ?_
                refine W_seq ?_
                refine W_region ?_
                refine op rfl (r_moveV (v := .int .i64 0) rfl) ?_
                refine op rfl (r_neq rfl rfl) ?_
                refine op_false rfl (r_moveV (v := .bool (decide _)) rfl) (fun h => h rfl) ?_
                refine opG_yes rfl rfl rfl rfl rfl (r_moveV (v := jq jb6) rfl) ?_
                refine opGCv_yes rfl rfl rfl rfl rfl (r_call Try.func19 Try.nm19 rfl) (jseq_spec hJ8) ?_
                rintro v w9 ⟨rfl, hE⟩
                replace hX := hX.trans hE
                have hE9 := hE
                refine opG_yes rfl rfl rfl rfl rfl (r_moveV (v := jq jb) rfl) ?_
                refine opGCv_yes rfl rfl rfl rfl rfl (r_call Try.func19 Try.nm19 rfl) (jseq_spec (hJ9.ext hE)) ?_
                rintro v w10 ⟨rfl, hE2⟩
                replace hX := hX.trans hE2
                have hJ10 := (hJ9.ext hE9).ext hE2
                refine opG_yes rfl rfl rfl rfl rfl (r_neq rfl rfl) ?_
                refine op rfl (r_pickFV (v := .bool _) rfl rfl) ?_
                refine op_false rfl (r_moveV (v := .bool (decide _)) rfl) (fun h => h (by rw [s2])) ?_
                refine opG_yes rfl rfl rfl rfl rfl (r_moveV (v := .slice A6 D2.stateOf.length c6) rfl) ?_
                refine opG_yes rfl rfl rfl rfl rfl (r_moveV (v := .slice _ _ _) rfl) ?_
                refine opG_yes rfl rfl rfl rfl rfl (r_moveV (v := .int _ _) rfl) ?_
                refine opG_yes rfl rfl rfl rfl rfl (r_indexAddr1 rfl rfl hAe Try.underlying22 Try.sz23 (by omega) (by omega)) ?_
                refine opG_yes rfl rfl rfl rfl rfl (r_load (v := .slice Ai l[i].length ci) rfl Try.underlying23 rfl (ext_cell hX hcell)) ?_
                refine opGCv_yes rfl rfl rfl rfl rfl (r_call Try.func18 Try.nm18 rfl) (same_spec A6 c6 D2.stateOf Ai ci l[i] _ ((row_old hr6 hJ8.fa.lt).ext (hE9.trans hE2)) (hrow.ext hX)) ?_
                rintro v w11 ⟨rfl, hE⟩
                replace hX := hX.trans hE
                have hJ6' := hJ10.ext hE
                refine opG_yes rfl rfl rfl rfl rfl (r_notP rfl) ?_
                refine op rfl (r_pickFV (v := .bool _) rfl rfl) ?_
                refine op_false rfl (r_moveV (v := .bool (decide _)) rfl) (fun h => h st2) ?_
                refine opG_yes rfl rfl rfl rfl rfl (r_moveV (v := .slice A7 D2.recsOf.1.length c7) rfl) ?_
                refine opG_yes rfl rfl rfl rfl rfl (r_len_slice rfl Try.underlying22) ?_
                refine opG_yes rfl rfl rfl rfl rfl (r_neq rfl rfl) ?_
                refine op rfl (r_pickFV (v := .bool _) rfl rfl) ?_
                refine WL_nil ?_
                refine W_ifp rfl (fun ht123 => ?_) (fun ht123 => ?_)
                · exact absurd (by rw [rc2]; rfl) ht123
                · refine W_skip ?_
                  refine W_region ?_
                  refine op rfl (r_moveV (v := .int _ _) rfl) ?_
                  refine op rfl (r_add' rfl rfl (wrap_i64 (by omega) (by omega))) ?_
                  refine op rfl (r_assignV (v := .int _ _) rfl) ?_
                  refine WL_nil ?_
                  refine ⟨?_, by repeat (first | with_reducible exact Out.refl _ _ | with_reducible exact Out.mix | refine Out.put rfl ?_ | refine Out.mixin rfl ?_ | exact Out.refl _ _ | exact Out.mix)⟩
                  exact ⟨l.length - (i + 1), by omega, i + 1, _, _, _, _, _, _, rfl, by omega, rfl, hI2, hL2, by show (rec1 (i + 1) l[i]).length ≤ 900; rw [rec1_len]; omega, hAn, hC2, f2.mono (by rw [hr1]; omega), hJ6', hX⟩
            · refine O_valG rfl rfl rfl rfl rfl rfl (r_load (v := .slice Ai l[i].length ci) rfl Try.underlying23 rfl (ext_cell hX hcell)) (hS) ?_
              refine A_takeG (i := 31) rfl (by kernel_rfl) (by kernel_rfl) (by kernel_rfl) rfl hS rfl rfl rfl rfl (fun _ hw => r_len_slice rfl Try.underlying23) ?_
              refine A_takeG (i := 32) rfl (by kernel_rfl) (by kernel_rfl) (by kernel_rfl) rfl hS rfl rfl rfl rfl (fun _ hw => r_add' (k := .i64) (m := 16) (n := ((l[i].length : Nat) : Int)) (r := ((16 + l[i].length : Nat) : Int)) rfl rfl (by rw [wrap_i64 (by omega) (by omega)]; omega)) ?_
              refine A_ready1 (i := 25) (by kernel_rfl) ?_
              refine O_callG rfl rfl rfl rfl rfl rfl (r_call Try.func20 Try.nm20 rfl) (read_da' hJ5.fa.da f2 (by rw [hr1]; omega) (sl i : Nat)) ?_
              rintro v w7 ⟨A8, c8, rfl, hE, hc8, hr8⟩
              replace hS := trivial
              refine ⟨hS, ?_⟩
              replace hX := hX.trans hE
              have hJ7 := hJ5.ext hE
              refine A_takeG (i := 26) rfl (by kernel_rfl) (by kernel_rfl) (by kernel_rfl) rfl hS rfl rfl rfl rfl (fun _ hw => r_len_slice rfl Try.underlying23) ?_
              refine A_takeG (i := 33) rfl (by kernel_rfl) (by kernel_rfl) (by kernel_rfl) rfl hS rfl rfl rfl rfl (fun _ hw => r_neq rfl rfl) ?_
              refine A_take (i := 34) rfl (by kernel_rfl) (by kernel_rfl) (by kernel_rfl) rfl hS (fun _ hw => r_pickFV (v := .bool _) rfl rfl) ?_
              refine A_done (by kernel_rfl) ?_
              refine W_ifp rfl (fun ht93 => ?_) (fun ht93 => ?_)
              · exact absurd (by rw [rl2]) ht93
              · refine W_skip ?_
                refine W_seq ?_
                refine W_region ?_
                refine op rfl (r_moveV (v := .pointer _) rfl) ?_
                refine opCv rfl (r_call Try.func9 Try.nm9 rfl) (open_spec hJ7.fa f2 (by rw [hr1]; omega) hL2 hI2.al.n) ?_
                rintro v w8 ⟨F6, jb6, A6, c6, A7, c7, rfl, hF6, hJ8, hc6, hr6, hc7, hr7, hFo8⟩
                rw [op2] at hJ8
                have hJ9 : JA jb p w0.heap.size F6 w8 D2 (i + 1) := ⟨hJ7.bj.at (hFo8.same _ hJ7.fj), hJ8.fa, hF6 _ hJ7.fj, hJ7.lo⟩
                have hX8' : Ext W w8 := Below.trans hX (hFo8.below.mono hX8.size)
                replace hX := hX8'
                refine op rfl (r_moveV (v := .tuple #[jq jb6, .slice A6 D2.stateOf.length c6, .slice A7 D2.recsOf.1.length c7, .int .i64 0]) rfl) ?_
                refine op rfl (r_extract (vs := [jq jb6, .slice A6 D2.stateOf.length c6, .slice A7 D2.recsOf.1.length c7, .int .i64 0]) rfl rfl) ?_
                refine op rfl (r_extract (vs := [jq jb6, .slice A6 D2.stateOf.length c6, .slice A7 D2.recsOf.1.length c7, .int .i64 0]) rfl rfl) ?_
                refine op rfl (r_extract (vs := [jq jb6, .slice A6 D2.stateOf.length c6, .slice A7 D2.recsOf.1.length c7, .int .i64 0]) rfl rfl) ?_
                refine op rfl (r_extract (vs := [jq jb6, .slice A6 D2.stateOf.length c6, .slice A7 D2.recsOf.1.length c7, .int .i64 0]) rfl rfl) ?_
                refine op rfl (r_assignV (v := jq jb6) rfl) ?_
                refine op rfl (r_assignV (v := .slice A6 D2.stateOf.length c6) rfl) ?_
                refine op rfl (r_assignV (v := .slice A7 D2.recsOf.1.length c7) rfl) ?_
                refine op rfl (r_assignV (v := .int .i64 0) rfl) ?_
                refine WL_nil ?_
                refine W_seq ?_
                refine W_region ?_
                refine op rfl (r_moveV (v := .int .i64 0) rfl) ?_
                refine op rfl (r_neq rfl rfl) ?_
                refine op_false rfl (r_moveV (v := .bool (decide _)) rfl) (fun h => h rfl) ?_
                refine opG_yes rfl rfl rfl rfl rfl (r_moveV (v := jq jb6) rfl) ?_
                refine opGCv_yes rfl rfl rfl rfl rfl (r_call Try.func19 Try.nm19 rfl) (jseq_spec hJ8) ?_
                rintro v w9 ⟨rfl, hE⟩
                replace hX := hX.trans hE
                have hE9 := hE
                refine opG_yes rfl rfl rfl rfl rfl (r_moveV (v := jq jb) rfl) ?_
                refine opGCv_yes rfl rfl rfl rfl rfl (r_call Try.func19 Try.nm19 rfl) (jseq_spec (hJ9.ext hE)) ?_
                rintro v w10 ⟨rfl, hE2⟩
                replace hX := hX.trans hE2
                have hJ10 := (hJ9.ext hE9).ext hE2
                refine opG_yes rfl rfl rfl rfl rfl (r_neq rfl rfl) ?_
                refine op rfl (r_pickFV (v := .bool _) rfl rfl) ?_
                refine op_false rfl (r_moveV (v := .bool (decide _)) rfl) (fun h => h (by rw [s2])) ?_
                refine opG_yes rfl rfl rfl rfl rfl (r_moveV (v := .slice A6 D2.stateOf.length c6) rfl) ?_
                refine opG_yes rfl rfl rfl rfl rfl (r_moveV (v := .slice _ _ _) rfl) ?_
                refine opG_yes rfl rfl rfl rfl rfl (r_moveV (v := .int _ _) rfl) ?_
                refine opG_yes rfl rfl rfl rfl rfl (r_indexAddr1 rfl rfl hAe Try.underlying22 Try.sz23 (by omega) (by omega)) ?_
                refine opG_yes rfl rfl rfl rfl rfl (r_load (v := .slice Ai l[i].length ci) rfl Try.underlying23 rfl (ext_cell hX hcell)) ?_
                refine opGCv_yes rfl rfl rfl rfl rfl (r_call Try.func18 Try.nm18 rfl) (same_spec A6 c6 D2.stateOf Ai ci l[i] _ ((row_old hr6 hJ8.fa.lt).ext (hE9.trans hE2)) (hrow.ext hX)) ?_
                rintro v w11 ⟨rfl, hE⟩
                replace hX := hX.trans hE
                have hJ6' := hJ10.ext hE
                refine opG_yes rfl rfl rfl rfl rfl (r_notP rfl) ?_
                refine op rfl (r_pickFV (v := .bool _) rfl rfl) ?_
                refine op_false rfl (r_moveV (v := .bool (decide _)) rfl) (fun h => h st2) ?_
                refine opG_yes rfl rfl rfl rfl rfl (r_moveV (v := .slice A7 D2.recsOf.1.length c7) rfl) ?_
                refine opG_yes rfl rfl rfl rfl rfl (r_len_slice rfl Try.underlying22) ?_
                refine opG_yes rfl rfl rfl rfl rfl (r_neq rfl rfl) ?_
                refine op rfl (r_pickFV (v := .bool _) rfl rfl) ?_
                refine WL_nil ?_
                refine W_ifp rfl (fun ht123 => ?_) (fun ht123 => ?_)
                · exact absurd (by rw [rc2]; rfl) ht123
                · refine W_skip ?_
                  refine W_region ?_
                  refine op rfl (r_moveV (v := .int _ _) rfl) ?_
                  refine op rfl (r_add' rfl rfl (wrap_i64 (by omega) (by omega))) ?_
                  refine op rfl (r_assignV (v := .int _ _) rfl) ?_
                  refine WL_nil ?_
                  refine ⟨?_, by repeat (first | with_reducible exact Out.refl _ _ | with_reducible exact Out.mix | refine Out.put rfl ?_ | refine Out.mixin rfl ?_ | exact Out.refl _ _ | exact Out.mix)⟩
                  exact ⟨l.length - (i + 1), by omega, i + 1, _, _, _, _, _, _, rfl, by omega, rfl, hI2, hL2, by show (rec1 (i + 1) l[i]).length ≤ 900; rw [rec1_len]; omega, hAn, hC2, f2.mono (by rw [hr1]; omega), hJ6', hX⟩
          · refine W_exit (blk_hit ?_)
            refine W_seq ?_
            refine W_region ?_
            refine opCv rfl (r_call Try.func7 Try.nm7 rfl) (known_spec _) ?_
            rintro v w12 ⟨rfl, hE⟩
            replace hX := hX.trans hE
            refine op rfl (r_assignV (v := .bool _) rfl) ?_
            refine WL_nil ?_
            refine W_ret (finX_ret ?_)
            refine fin1 ?_
            exact ⟨_, rfl, rfl, hX⟩
end Go.Proofs.Ytlidigdlcjhkfaa
