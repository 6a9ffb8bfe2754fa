/-
  A history is what the reference tells: the walk.
-/
import Derived.Test.YtkdcmdcdjnmkaaaDoorFacts
import Derived.Test.YtkdcmdcdjnmkaaaDoorRef3L
import Derived.Test.YtkdcmdcdjnmkaaaDoorHistQ
import Derived.Test.YtkdcmdcdjnmkaaaDoorHistLKeeps
namespace Go.Proofs.YtkdcmdcdjnmkaaaDoor
open Go Go.Eng Go.RowKit Go.Proofs
set_option linter.unusedVariables false
set_option linter.unusedSimpArgs false
set_option maxHeartbeats 1000000
set_option maxRecDepth 20000

theorem sameTexts_spec {A1 : Option Addr} {c1 : Nat} {a : List (List UInt8)} {A2 : Option Addr} {c2 : Nat} {b : List (List UInt8)} {w : World} (h1 : strT.Row w (old w) A1 a) (h2 : strT.Row w (old w) A2 b) (hl : a.length ≤ 140737488355328) :
    Calls Tryd.prog 25 #[.slice A1 a.length c1, .slice A2 b.length c2] w (fun en w' => ∃ v, en = .returned v ∧ v = .bool (decide (a = b)) ∧ Ext w w') := by
  refine calls' (n := 26) (rs := #[.tmp 4]) (l := [.slice A1 a.length c1, .slice A2 b.length c2]) Tryd.func25 rfl rfl rfl rfl rfl ?_
  have hX := Ext.refl w
  refine W_seq ?_
  refine W_region ?_
  refine op rfl (r_assignV (v := .bool _) rfl) ?_
  refine WL_nil ?_
  refine W_seq ?_
  refine W_seq ?_
  refine W_region ?_
  refine op rfl (r_moveV (v := .slice _ _ _) rfl) ?_
  refine op rfl (r_len_slice rfl Tryd.underlying38) ?_
  refine op rfl (r_moveV (v := .slice _ _ _) rfl) ?_
  refine op rfl (r_len_slice rfl Tryd.underlying38) ?_
  refine op rfl (r_neq rfl rfl) ?_
  refine WL_nil ?_
  refine W_ifp rfl (fun ht10 => ?_) (fun ht10 => ?_)
  · refine W_seq ?_
    refine W_region ?_
    refine op rfl (r_assignV (v := .bool _) rfl) ?_
    refine WL_nil ?_
    refine W_ret (finX_ret ?_)
    refine fin1 ?_
    first
      | exact ⟨_, rfl, bool_ff (fun h => by subst h; omega), hX⟩
      | exact ⟨_, rfl, bool_tt (List.ext_getElem hab (fun j h h' => hall j h h' (by omega))), hX⟩
      | exact ⟨_, rfl, bool_ff (fun h => by subst h; exact ht25 rfl), hX⟩
  · have hab : a.length = b.length := by omega
    refine W_skip ?_
    refine W_seq ?_
    refine W_seq ?_
    refine W_region ?_
    refine op rfl (r_assignV (v := .int _ _) rfl) ?_
    refine WL_nil ?_
    refine W_block ?_
    refine W_loop [4, 5, 11, 12, 13, 14, 15, 16, 17, 18, 19, 20, 21, 22, 23, 24, 25] (fun q e' w' => ∃ (i : Nat), q = a.length - i ∧ i ≤ a.length ∧ e' 5 = .int .i64 i ∧ (∀ j (h : j < a.length) (h' : j < b.length), j < i → a[j] = b[j]) ∧ Ext w w') (a.length) ?_ ?_
    · exact ⟨0, by omega, by omega, rfl, fun j _ _ h => absurd h (Nat.not_lt_zero j), hX⟩
    intro k g w' hI
    obtain ⟨i, hq, hi, h5, hall, hX'⟩ := hI
    clear hX
    have hX := hX'
    refine W_set (i := 5) h5 ?_
    refine W_seq ?_
    refine W_seq ?_
    refine W_region ?_
    refine op rfl (r_moveV (v := .int _ _) rfl) ?_
    refine op rfl (r_moveV (v := .slice _ _ _) rfl) ?_
    refine op rfl (r_len_slice rfl Tryd.underlying38) ?_
    refine op rfl (r_lss rfl rfl) ?_
    refine WL_nil ?_
    refine W_ifp rfl (fun ht14 => ?_) (fun ht14 => ?_)
    · have hlt : i < a.length := by omega
      have hlt2 : i < b.length := by omega
      obtain ⟨g1, o1, hA1, _, hs1, hc1⟩ := h1.cell hlt
      obtain ⟨g2, o2, hA2, _, hs2, hc2⟩ := h2.cell hlt2
      refine W_skip ?_
      refine W_seq ?_
      refine W_block ?_
      refine W_seq ?_
      refine W_drawF (W0 := w) (fun b : Nat => False) Tryd.wd rfl ?_
      intro wd6 hD
      replace hX := hX.trans hD
      have hS : Ext w wd6 ∧ Same (fun b : Nat => False) wd6 wd6 := ⟨hX, fun _ _ => rfl⟩
      refine A_take (i := 0) rfl (by kernel_rfl) (by kernel_rfl) (by kernel_rfl) rfl hS (fun _ hw => r_moveV (v := .slice _ _ _) rfl) ?_
      refine A_take (i := 1) rfl (by kernel_rfl) (by kernel_rfl) (by kernel_rfl) rfl hS (fun _ hw => r_moveV (v := .int _ _) rfl) ?_
      refine A_take (i := 2) rfl (by kernel_rfl) (by kernel_rfl) (by kernel_rfl) rfl hS (fun _ hw => r_indexAddr1 rfl rfl hA1 Tryd.underlying38 Tryd.sz9 (by omega) (by omega)) ?_
      refine A_take (i := 3) rfl (by kernel_rfl) (by kernel_rfl) (by kernel_rfl) rfl hS (fun _ hw => r_load (v := .string (str a[i])) rfl Tryd.underlying9 rfl (ext_cell hw.1 hc1)) ?_
      refine A_take (i := 4) rfl (by kernel_rfl) (by kernel_rfl) (by kernel_rfl) rfl hS (fun _ hw => r_moveV (v := .slice _ _ _) rfl) ?_
      refine A_take (i := 5) rfl (by kernel_rfl) (by kernel_rfl) (by kernel_rfl) rfl hS (fun _ hw => r_moveV (v := .int _ _) rfl) ?_
      refine A_take (i := 6) rfl (by kernel_rfl) (by kernel_rfl) (by kernel_rfl) rfl hS (fun _ hw => r_indexAddr1 rfl rfl hA2 Tryd.underlying38 Tryd.sz9 (by omega) (by omega)) ?_
      refine A_take (i := 7) rfl (by kernel_rfl) (by kernel_rfl) (by kernel_rfl) rfl hS (fun _ hw => r_load (v := .string (str b[i])) rfl Tryd.underlying9 rfl (ext_cell hw.1 hc2)) ?_
      refine A_take (i := 8) rfl (by kernel_rfl) (by kernel_rfl) (by kernel_rfl) rfl hS (fun _ hw => rt_neq rfl rfl) ?_
      refine A_done (by kernel_rfl) ?_
      refine W_ifp rfl (fun ht25 => ?_) (fun ht25 => ?_)
      · refine W_seq ?_
        refine W_region ?_
        refine op rfl (r_assignV (v := .bool _) rfl) ?_
        refine WL_nil ?_
        refine W_ret (blk_ret (blk_ret (finX_ret ?_)))
        refine fin1 ?_
        first
          | exact ⟨_, rfl, bool_ff (fun h => by subst h; omega), hX⟩
          | exact ⟨_, rfl, bool_tt (List.ext_getElem hab (fun j h h' => hall j h h' (by omega))), hX⟩
          | exact ⟨_, rfl, bool_ff (fun h => by subst h; exact ht25 rfl), hX⟩
      · refine W_skip ?_
        refine W_region ?_
        refine op rfl (r_moveV (v := .int _ _) rfl) ?_
        refine op rfl (r_add' (r := ((i + 1 : Nat) : Int)) rfl rfl (by rw [wrap_i64 (by omega) (by omega)]; omega)) ?_
        refine op rfl (r_assignV (v := .int _ _) rfl) ?_
        refine WL_nil ?_
        refine ⟨?_, by repeat (first | with_reducible exact Out.refl _ _ | with_reducible exact Out.mix | refine Out.put rfl ?_ | refine Out.mixin rfl ?_ | exact Out.refl _ _ | exact Out.mix)⟩
        refine ⟨a.length - (i + 1), by omega, i + 1, rfl, by omega, rfl, fun j h h' hj => ?_, hX⟩
        by_cases hji : j = i
        · subst hji; exact Classical.not_not.1 ht25
        · exact hall j h h' (by omega)
    · refine W_exit (blk_hit ?_)
      refine W_seq ?_
      refine W_region ?_
      refine op rfl (r_assignV (v := .bool _) rfl) ?_
      refine WL_nil ?_
      refine W_ret (finX_ret ?_)
      refine fin1 ?_
      first
        | exact ⟨_, rfl, bool_ff (fun h => by subst h; omega), hX⟩
        | exact ⟨_, rfl, bool_tt (List.ext_getElem hab (fun j h h' => hall j h h' (by omega))), hX⟩
        | exact ⟨_, rfl, bool_ff (fun h => by subst h; exact ht25 rfl), hX⟩
theorem rpn_neq {P : Program} {ρ : Operand → Value} {w : World} {d : Option Tmp} {t : TypeId} {pos : String} {af : Array Edge} {g : Option (Nat × Bool)} {x y : Operand} {xt yt el : TypeId} (hx : ρ x = .pointer none) (hy : ρ y = .pointer none) (hu : P.underlying xt = some (.pointer el)) : (execOp ρ ⟨d, .binOp .neq xt x y yt, t, pos, af, g⟩).run P w = .ok (.value (.bool (decide False))) w := by
  have h : ∀ n, (Op.equalIn (n + 1) xt (.pointer none) (.pointer none)).run P w = .ok true w := fun n => by simp only [Op.equalIn, Sem.run_bind, run_underlying hu, Result.andThen_ok]; rfl
  have h' : (Op.equal xt (.pointer none) (.pointer none)).run P w = .ok true w := h 9999
  simp [execOp, hx, hy, eqGuard, binOp, h']
theorem new_spec3 {A : Option Addr} {cap : Nat} {t : Tree} {w : World} {G : Nat → Prop} (hG : ∀ b, G b → b < w.heap.size) (hrow : fiT.Row w G A t) (hl : t.length * 40 ≤ 140737488355328) :
    Calls Tryd.prog 11 #[.slice A t.length cap] w (fun en w' => ∃ v, en = .returned v ∧ ∃ pv, v = .tuple #[pv, .int .i64 (if rightT t then 0 else 2)] ∧ (rightT t → ∃ p, pv = hp p ∧ Hist p (since w w') w' [⟨[], t⟩]) ∧ (¬ rightT t → pv = .pointer none) ∧ Ext w w') := by
  refine (new_spec (cap := cap) hG hrow hl).mono ?_
  rintro en w' ⟨v, rfl, hE, ⟨hr, p, rfl, hH⟩ | ⟨hr, rfl⟩⟩
  · exact ⟨_, rfl, _, by rw [if_pos hr], fun _ => ⟨p, rfl, hH⟩, fun q => absurd hr q, hE⟩
  · exact ⟨_, rfl, _, by rw [if_neg hr], fun q => absurd q hr, fun _ => rfl, hE⟩
theorem historySteps_walk {A : Option Addr} {cap : Nat} {t : Tree} {Al : Option Addr} {cl : Nat} {l : List (List Dl)} {r : Int} {As : Option Addr} {cs : Nat} {ss : List (List UInt8)} {w : World} (hrow : fiT.Row w (old w) A t) (hct : t.length ≤ cap) (hl : t.length ≤ 140737488355328) (hrowl : dlsT.Row w (old w) Al l) (hll : l.length ≤ 140737488355328) (hrows : strT.Row w (old w) As ss) (hls : ss.length * 16 ≤ 140737488355328)
    (hp1 : ∀ x ∈ t, x.p.length ≤ 1099511627776) (hp2 : ∀ ds ∈ l, ∀ d ∈ ds, d.p.length ≤ 1099511627776) :
    Calls Tryd.prog 8 #[.slice A t.length cap, .slice Al l.length cl, .int .i64 r, .slice As ss.length cs] w (fun en w' => ∃ v, en = .returned v ∧ v = .bool true ∧ Ext w w') := by
  refine calls' (n := 187) (rs := #[.tmp 8]) (l := [.slice A t.length cap, .slice Al l.length cl, .int .i64 r, .slice As ss.length cs]) Tryd.func8 rfl rfl rfl rfl rfl ?_
  have hX := Ext.refl w
  refine W_seq ?_
  refine W_region ?_
  refine op rfl (r_assignV (v := .bool _) rfl) ?_
  refine WL_nil ?_
  refine W_seq ?_
  refine W_seq ?_
  refine W_region ?_
  refine op rfl (r_moveV (v := .slice _ _ _) rfl) ?_
  refine op rfl (r_moveV (v := .slice _ _ _) rfl) ?_
  refine opCv rfl (r_call Tryd.func9 Tryd.nm9 rfl) (small_spec (hrow.ext hX) hl (hrowl.ext hX) hll) ?_
  rintro v2 w2 ⟨q, dq, rfl, hq, hE⟩
  replace hX := hX.trans hE
  refine op rfl (r_notP rfl) ?_
  refine op_split rfl (r_moveV (v := .bool (decide _)) rfl) (fun hg33 => ?_) (fun hg33 => ?_)
  · refine opG_no rfl rfl rfl rfl rfl ?_
    refine opG_no rfl rfl rfl rfl rfl ?_
    refine opG_no rfl rfl rfl rfl rfl ?_
    refine op rfl (r_pickTV (v := .bool _) rfl rfl) ?_
    refine WL_nil ?_
    refine W_then rfl ?_
    refine W_seq ?_
    refine W_region ?_
    refine opCv rfl (r_call Tryd.func10 Tryd.nm10 rfl) (known_spec _) ?_
    rintro v9 w9 ⟨rfl, hE⟩
    replace hX := hX.trans hE
    refine op rfl (r_assignV (v := .bool _) rfl) ?_
    refine WL_nil ?_
    refine W_ret (finX_ret ?_)
    refine fin1 ?_
    first
      | exact ⟨_, rfl, by first | rfl | exact (bool_tt trivial).symm, hX⟩
      | exact ⟨_, rfl, by first | rfl | exact (bool_tt trivial).symm, hX'.trans hX⟩
  · refine opG_yes rfl rfl rfl rfl rfl (r_moveV (v := .slice _ _ _) rfl) ?_
    refine opG_yes rfl rfl rfl rfl rfl (r_len_slice rfl Tryd.underlying38) ?_
    refine opG_yes rfl rfl rfl rfl rfl (r_gtr rfl rfl) ?_
    refine op rfl (r_pickFV (v := .bool _) rfl rfl) ?_
    refine WL_nil ?_
    refine W_ifp rfl (fun ht37 => ?_) (fun ht37 => ?_)
    · refine W_seq ?_
      refine W_region ?_
      refine opCv rfl (r_call Tryd.func10 Tryd.nm10 rfl) (known_spec _) ?_
      rintro v9 w9 ⟨rfl, hE⟩
      replace hX := hX.trans hE
      refine op rfl (r_assignV (v := .bool _) rfl) ?_
      refine WL_nil ?_
      refine W_ret (finX_ret ?_)
      refine fin1 ?_
      first
        | exact ⟨_, rfl, by first | rfl | exact (bool_tt trivial).symm, hX⟩
        | exact ⟨_, rfl, by first | rfl | exact (bool_tt trivial).symm, hX'.trans hX⟩
    · have hq' := hq (Classical.not_not.1 hg33)
      refine W_skip ?_
      refine W_seq ?_
      refine W_region ?_
      refine op rfl (r_moveV (v := .slice _ _ _) rfl) ?_
      have hX1 := hX
      refine opCv rfl (r_call Tryd.func11 Tryd.nm11 rfl) (new_spec3 (G := old w) (fun b hb ↦ Nat.lt_of_lt_of_le hb hX.size) (hrow.keep (fun b hb ↦ hX.block b hb) (fun _ h ↦ h)) (by omega)) ?_
      rintro v3 w3 ⟨pv, rfl, hH, hHno, hE⟩
      replace hX := hX.trans hE
      refine op rfl (r_moveV (v := .tuple #[pv, .int .i64 (if rightT t then 0 else 2)]) rfl) ?_
      refine op rfl (r_extract (vs := [pv, .int .i64 (if rightT t then 0 else 2)]) rfl rfl) ?_
      refine op rfl (r_extract (vs := [pv, .int .i64 (if rightT t then 0 else 2)]) rfl rfl) ?_
      refine op rfl (r_assignV (v := pv) rfl) ?_
      refine op rfl (r_assignV (v := .int .i64 (if rightT t then 0 else 2)) rfl) ?_
      refine WL_nil ?_
      refine W_seq ?_
      refine W_region ?_
      refine op rfl (r_moveV (v := .slice _ _ _) rfl) ?_
      have hX3 := hX
      refine opCv rfl (r_call Tryd.func23 Tryd.nm23 rfl) (refNew_spec (G := old w) (fun b hb ↦ Nat.lt_of_lt_of_le hb hX.size) (hrow.keep (fun b hb ↦ hX.block b hb) (fun _ h ↦ h)) hct (by omega) hp1) ?_
      rintro v4 w4 ⟨uv, rfl, hR4, hE⟩
      replace hX := hX.trans hE
      obtain ⟨n0, hn0⟩ : ∃ n, n = (if rightT t then [(⟨[], t⟩ : Rv)] else []).length := ⟨_, rfl⟩
      have hR4' := hR4
      obtain ⟨AT, cT, AM, cM, rfl, -⟩ := hR4
      rw [← hn0]
      rw [← hn0] at hR4'
      have hE34 := hE
      refine op rfl (r_moveV (v := .tuple #[.agg #[.slice AT n0 cT, .slice AM n0 cM], .int .i64 (if rightT t then 0 else 2)]) rfl) ?_
      refine op rfl (r_extract (vs := [.agg #[.slice AT n0 cT, .slice AM n0 cM], .int .i64 (if rightT t then 0 else 2)]) rfl rfl) ?_
      refine op rfl (r_extract (vs := [.agg #[.slice AT n0 cT, .slice AM n0 cM], .int .i64 (if rightT t then 0 else 2)]) rfl rfl) ?_
      refine op_alloc rfl Tryd.zero52 ?_
      intro w4_5 b4_5 E4_5 B4_5 L4_5
      have hG4_5 : w.heap.size ≤ b4_5 := by have := hX.size; omega
      replace hX := hX.trans E4_5
      refine op_storeRow rfl rfl Tryd.sz52 B4_5 rfl rfl ?_
      intro w4_6 C4_6 BB4_6
      replace hX := hX.chg C4_6 hG4_5
      replace B4_5 := BB4_6
      refine op rfl (r_assignV (v := .int .i64 (if rightT t then 0 else 2)) rfl) ?_
      refine WL_nil ?_
      refine W_seq ?_
      refine W_seq ?_
      refine W_region ?_
      refine op rfl (r_moveV (v := .int .i64 (if rightT t then 0 else 2)) rfl) ?_
      refine op rfl (r_moveV (v := .int .i64 (if rightT t then 0 else 2)) rfl) ?_
      refine op rfl (r_neq rfl rfl) ?_
      refine op_false rfl (r_moveV (v := .bool (decide _)) rfl) (fun h => h rfl) ?_
      refine opG_yes rfl rfl rfl rfl rfl (r_moveV (v := .int .i64 (if rightT t then 0 else 2)) rfl) ?_
      refine opG_yes rfl rfl rfl rfl rfl (r_neq rfl rfl) ?_
      refine opG_split rfl rfl rfl rfl rfl (r_moveV (v := .bool (decide _)) rfl) (fun hg55 => ?_) (fun hg55 => ?_)
      · refine opG_yes rfl rfl rfl rfl rfl (r_moveV (v := .pointer none) (by rw [← hHno (fun q => hg55 (if_pos q))]; rfl)) ?_
        refine opG_yes rfl rfl rfl rfl rfl (rpn_neq rfl rfl Tryd.underlying27) ?_
        refine opG_yes rfl rfl rfl rfl rfl (r_pickTV (v := .bool _) rfl rfl) ?_
        refine op rfl (r_pickFV (v := .bool _) rfl rfl) ?_
        refine WL_nil ?_
        refine W_ifp rfl (fun ht59 => ?_) (fun ht59 => ?_)
        · exact ht59.elim
        · refine W_skip ?_
          refine W_seq ?_
          refine W_seq ?_
          refine W_region ?_
          refine op rfl (r_moveV (v := .int .i64 (if rightT t then 0 else 2)) rfl) ?_
          refine op rfl (r_neq rfl rfl) ?_
          refine WL_nil ?_
          refine W_ifp rfl (fun ht61 => ?_) (fun ht61 => ?_)
          · refine W_seq ?_
            refine W_region ?_
            refine opCv rfl (r_call Tryd.func10 Tryd.nm10 rfl) (known_spec _) ?_
            rintro v9 w9 ⟨rfl, hE⟩
            replace B4_5 := Blk.ext B4_5 hE
            replace hX := hX.trans hE
            refine op rfl (r_assignV (v := .bool _) rfl) ?_
            refine WL_nil ?_
            refine W_ret (finX_ret ?_)
            refine fin1 ?_
            first
              | exact ⟨_, rfl, by first | rfl | exact (bool_tt trivial).symm, hX⟩
              | exact ⟨_, rfl, by first | rfl | exact (bool_tt trivial).symm, hX'.trans hX⟩
          · have hr : rightT t := Classical.byContradiction (fun q => ht61 (by rw [if_neg q]; decide))
            obtain ⟨p, hpv, hH0⟩ := hH hr
            rw [if_pos hr] at hR4' hn0
            have hn1 : n0 = 1 := hn0
            subst hn1
            have hs1 := hX1.size
            have hs3 := hX3.size
            have hs34 := hE34.size
            have hS46 : ∀ b, b < w4.heap.size → w4_6.heap[b]? = w4.heap[b]? := fun b hb => (C4_6.block b (by have := E4_5.size; omega) (by omega)).trans (E4_5.block b hb)
            have hH6 : Hist p (since w2 w3) w4_6 [⟨[], t⟩] := (hH0.ext hE34).keep (fun b hb => hS46 b (by have := hb.2; omega))
            have hs46 : w4.heap.size ≤ w4_6.heap.size := by have := E4_5.size; have := C4_6.size; omega
            have hR6 : RefH (fun b => b < w4_6.heap.size ∧ ¬ since w2 w3 b ∧ b ≠ b4_5) w4_6 (.agg #[.slice AT 1 cT, .slice AM 1 cM]) [⟨[], t⟩] := hR4'.keep (fun b hb => hS46 b (by rcases hb with q | q; (have : b < w.heap.size := q; omega); exact q.2)) (fun b hb => by
              rcases hb with q | q
              · have : b < w.heap.size := q
                exact ⟨by omega, fun k => by have := k.1; omega, by omega⟩
              · have := q.1; have := q.2
                exact ⟨by omega, fun k => by have := k.2; omega, by omega⟩)
            refine W_skip ?_
            refine W_seq ?_
            refine W_seq ?_
            refine W_region ?_
            refine op rfl (r_assignV (v := .int _ _) rfl) ?_
            refine WL_nil ?_
            refine W_block ?_
            refine W_loop (8 :: 13 :: 14 :: 15 :: 16 :: 17 :: 18 :: 63 :: 64 :: 65 :: 66 :: 67 :: 68 :: 69 :: 70 :: 71 :: 72 :: 73 :: 74 :: 75 :: 76 :: 77 :: 78 :: 79 :: 80 :: 81 :: 82 :: 83 :: 84 :: 85 :: 86 :: 87 :: 88 :: 89 :: 90 :: 91 :: 92 :: 93 :: 94 :: 95 :: 96 :: 97 :: 98 :: 99 :: 100 :: 101 :: 102 :: 103 :: 104 :: 105 :: 106 :: 107 :: 108 :: 109 :: 110 :: 111 :: 112 :: 113 :: 114 :: 115 :: []) (fun q e' w' => ∃ (i : Nat) (H : List Rv) (Z : Nat → Prop) (AT : Option Addr) (cT : Nat) (AM : Option Addr) (cM : Nat), q = l.length - i ∧ i ≤ l.length ∧ e' 13 = .int .i64 i ∧ Hist p Z w' H ∧ RefH (fun b => b < w'.heap.size ∧ ¬ Z b ∧ b ≠ b4_5) w' (.agg #[.slice AT H.length cT, .slice AM H.length cM]) H ∧ Blk w' b4_5 #[.slice AT H.length cT, .slice AM H.length cM] 52 ∧ (∀ b, Z b → w.heap.size ≤ b ∧ b < w'.heap.size ∧ b ≠ b4_5) ∧ Ext w w') (l.length) ?_ ?_
            · exact ⟨0, [⟨[], t⟩], _, AT, cT, AM, cM, by omega, by omega, rfl, hH6, hR6, B4_5, fun b hb => ⟨by have := hb.1; omega, by have := hb.2; omega, by have := hb.2; omega⟩, hX⟩
            intro k g w' hI
            clear B4_5
            obtain ⟨i, H, Z, AT, cT, AM, cM, hq0, hi, h13, hH', hRf, B4_5, hZ, hX'⟩ := hI
            clear hX
            have hX := hX'
            have hHl := hist_len hH'
            have hbu := Blk.lt B4_5
            obtain ⟨w0i, hw0i⟩ : ∃ x, x = w' := ⟨_, rfl⟩
            subst hw0i
            refine W_set (i := 13) h13 ?_
            refine W_seq ?_
            refine W_seq ?_
            refine W_region ?_
            refine op rfl (r_moveV (v := .int _ _) rfl) ?_
            refine op rfl (r_moveV (v := .slice _ _ _) rfl) ?_
            refine op rfl (r_len_slice rfl Tryd.underlying24) ?_
            refine op rfl (r_lss rfl rfl) ?_
            refine WL_nil ?_
            refine W_ifp rfl (fun ht66 => ?_) (fun ht66 => ?_)
            · have hlt : i < l.length := by omega
              obtain ⟨g1, off1, Ai, ci, hA, -, hcell, hci, hbl, hrr⟩ := hrowl.cellW hlt
              refine W_skip ?_
              refine W_seq ?_
              refine W_block ?_
              refine W_seq ?_
              refine W_region ?_
              refine op rfl (r_moveV (v := hp p) (by rw [← hpv]; rfl)) ?_
              refine op rfl (r_moveV (v := .slice _ _ _) rfl) ?_
              refine op rfl (r_moveV (v := .int _ _) rfl) ?_
              refine op rfl (r_indexAddr1 rfl rfl hA Tryd.underlying24 Tryd.sz33 (by omega) (by omega)) ?_
              refine op rfl (r_load (v := .slice Ai l[i].length ci) rfl Tryd.underlying33 rfl (ext_cell hX hcell)) ?_
              refine opCv rfl (r_call Tryd.func12 Tryd.nm12 rfl) (commit_spec (cd := ci) hH' (fun b hb ↦ ⟨Nat.lt_of_lt_of_le hb hX.size, fun q ↦ by have := (hZ b q).1; have : b < w.heap.size := hb; omega⟩) (hrr.keep (fun b hb ↦ hX.block b hb) (fun _ h ↦ h)) hbl) ?_
              rintro v5 w5 ⟨hv5, hH5, hM⟩
              obtain ⟨H1, hH1⟩ : ∃ x, x = (commitR H l[i]).1 := ⟨_, rfl⟩
              obtain ⟨rn, hrn⟩ : ∃ x, x = (commitR H l[i]).2.1 := ⟨_, rfl⟩
              obtain ⟨ec, hec⟩ : ∃ x, x = (commitR H l[i]).2.2 := ⟨_, rfl⟩
              rw [← hrn, ← hec] at hv5
              subst hv5
              rw [← hH1] at hH5
              have hX5 : Ext w w5 := ext_mv hX hM (fun b hb => (hZ b hb).1)
              clear hX
              have hX := hX5
              have hs5 := hM.size
              have hB5 : Blk w5 b4_5 _ _ := hM.blk B4_5 (fun q => (hZ _ q).2.2 rfl)
              clear B4_5
              have B4_5 := hB5
              have hRf5 : RefH (fun b => b < w0i.heap.size ∧ ¬ Z b ∧ b ≠ b4_5) w5 (.agg #[.slice AT H.length cT, .slice AM H.length cM]) H := hRf.keep (fun b hb => hM.block b hb.1 hb.2.1) (fun _ h => h)
              have hRc : ∀ W, Ext w5 W → Calls Tryd.prog 24 #[.agg #[.slice AT H.length cT, .slice AM H.length cM], .slice Ai l[i].length ci] W (fun en w' => ∃ v', en = .returned v' ∧ ∃ v1, v' = .tuple #[v1, .int .i64 rn, .int .i64 ec] ∧ RefH (fun b => (b < w0i.heap.size ∧ ¬ Z b ∧ b ≠ b4_5) ∨ since W w' b) w' v1 H1 ∧ Ext W w') := fun W he => by
                have := refCommit_spec (cd := ci) (w := W) (G := fun b => b < w0i.heap.size ∧ ¬ Z b ∧ b ≠ b4_5) (hRf5.keep (fun b hb => he.block b (by have := hb.1; omega)) (fun _ h => h)) hHl.1 hHl.2 (fun b hb => by have := hb.1; have := he.size; omega) ((hrr.keep (fun b hb => (hX5.trans he).block b hb) (fun b hb => ⟨by have := hX'.size; have : b < w.heap.size := hb; omega, fun q => by have := (hZ b q).1; have : b < w.heap.size := hb; omega, fun q => by have : b < w.heap.size := hb; omega⟩))) hci hbl (fun d hd => hp2 _ (List.getElem_mem hlt) d hd) (hist_ok hH')
                rw [← hH1, ← hrn, ← hec] at this
                exact this
              refine op rfl (r_moveV (v := .tuple #[.int .i64 rn, .int .i64 ec]) rfl) ?_
              refine op rfl (r_extract (vs := [.int .i64 rn, .int .i64 ec]) rfl rfl) ?_
              refine op rfl (r_extract (vs := [.int .i64 rn, .int .i64 ec]) rfl rfl) ?_
              refine op rfl (r_assignV (v := .int .i64 rn) rfl) ?_
              refine op rfl (r_assignV (v := .int .i64 ec) rfl) ?_
              refine WL_nil ?_
              refine W_seq ?_
              refine W_drawF (W0 := w) (fun b : Nat => b = b4_5 ∨ False) Tryd.wd rfl ?_
              intro wd13 hD
              replace B4_5 := Blk.ext B4_5 hD
              replace hX := hX.trans hD
              have DB4_5 := B4_5
              have hS : Ext w wd13 ∧ Same (fun b : Nat => b = b4_5 ∨ False) wd13 wd13 := ⟨hX, fun _ _ => rfl⟩
              refine A_take (i := 0) rfl (by kernel_rfl) (by kernel_rfl) (by kernel_rfl) rfl hS (fun _ hw => r_loadRow rfl (Blk.at DB4_5 (hw.2 _ (Or.inl rfl))) Tryd.underlying52 rfl Tryd.sz52) ?_
              refine A_take (i := 1) rfl (by kernel_rfl) (by kernel_rfl) (by kernel_rfl) rfl hS (fun _ hw => r_moveV (v := .slice _ _ _) rfl) ?_
              refine A_take (i := 2) rfl (by kernel_rfl) (by kernel_rfl) (by kernel_rfl) rfl hS (fun _ hw => r_moveV (v := .int _ _) rfl) ?_
              refine A_take (i := 3) rfl (by kernel_rfl) (by kernel_rfl) (by kernel_rfl) rfl hS (fun _ hw => r_indexAddr1 rfl rfl hA Tryd.underlying24 Tryd.sz33 (by omega) (by omega)) ?_
              refine A_take (i := 4) rfl (by kernel_rfl) (by kernel_rfl) (by kernel_rfl) rfl hS (fun _ hw => r_load (v := .slice Ai l[i].length ci) rfl Tryd.underlying33 rfl (ext_cell hw.1 hcell)) ?_
              refine A_ready2 (i := 5) (j := 10) (by kernel_rfl) ?_ ?_
              · have hsD13 := hD.size
                first
                  | have lb13 := Blk.lt B13_10
                  | skip
                refine O_call rfl rfl (r_call Tryd.func24 Tryd.nm24 rfl) (hRc _ (by first | exact hD | exact hD.trans E13_10)) ?_
                rintro v6 w6 ⟨v7, rfl, hR6', hE⟩
                replace B4_5 := Blk.ext B4_5 hE
                replace hX := hX.trans hE
                replace hS : Ext w w6 ∧ Same (fun b : Nat => b = b4_5 ∨ False) wd13 w6 := ⟨hX, fun b hb => Or.elim hb (fun q => by subst q; exact Blk.eq B4_5 DB4_5) (fun hb => hb.elim)⟩
                refine ⟨hS, ?_⟩
                have hR7 := hR6'
                obtain ⟨AT1, cT1, AM1, cM1, rfl, -⟩ := hR6'
                have hE56 : Ext w5 w6 := by first | exact hD.trans hE | exact (hD.trans E13_10).trans hE
                refine A_take (i := 6) rfl (by kernel_rfl) (by kernel_rfl) (by kernel_rfl) rfl hS (fun _ hw => r_moveV (v := .tuple #[.agg #[.slice AT1 H1.length cT1, .slice AM1 H1.length cM1], .int .i64 rn, .int .i64 ec]) rfl) ?_
                refine A_take (i := 7) rfl (by kernel_rfl) (by kernel_rfl) (by kernel_rfl) rfl hS (fun _ hw => r_extract (vs := [.agg #[.slice AT1 H1.length cT1, .slice AM1 H1.length cM1], .int .i64 rn, .int .i64 ec]) rfl rfl) ?_
                refine A_take (i := 8) rfl (by kernel_rfl) (by kernel_rfl) (by kernel_rfl) rfl hS (fun _ hw => r_extract (vs := [.agg #[.slice AT1 H1.length cT1, .slice AM1 H1.length cM1], .int .i64 rn, .int .i64 ec]) rfl rfl) ?_
                refine A_take (i := 9) rfl (by kernel_rfl) (by kernel_rfl) (by kernel_rfl) rfl hS (fun _ hw => r_extract (vs := [.agg #[.slice AT1 H1.length cT1, .slice AM1 H1.length cM1], .int .i64 rn, .int .i64 ec]) rfl rfl) ?_
                refine A_ready1 (i := 10) (by kernel_rfl) ?_
                refine O_new rfl rfl (r_alloc Tryd.zero52) ?_
                intro w13_10 b13_10 E13_10 B13_10 L13_10
                have hG13_10 : w.heap.size ≤ b13_10 := by have := hX.size; omega
                have hNb4_5_13_10 : b4_5 ≠ b13_10 := by have := Blk.lt B4_5; omega
                replace B4_5 := Blk.ext B4_5 E13_10
                replace hX := hX.trans E13_10
                replace hS : Ext w w13_10 ∧ Same (fun b : Nat => b = b4_5 ∨ False) wd13 w13_10 := ⟨hX, fun b hb => Or.elim hb (fun q => by subst q; exact Blk.eq B4_5 DB4_5) (fun hb => hb.elim)⟩
                refine ⟨hS, ?_⟩
                refine A_ready1 (i := 11) (by kernel_rfl) ?_
                refine O_storeRow rfl rfl rfl Tryd.sz52 B13_10 rfl rfl ?_
                intro w13_11 C13_11 BB13_11
                replace B4_5 := Chg.blk C13_11 B4_5 hNb4_5_13_10
                replace hX := hX.chg C13_11 hG13_10
                replace B13_10 := BB13_11
                replace hS : Ext w w13_11 ∧ Same (fun b : Nat => b = b4_5 ∨ False) wd13 w13_11 := ⟨hX, fun b hb => Or.elim hb (fun q => by subst q; exact Blk.eq B4_5 DB4_5) (fun hb => hb.elim)⟩
                refine ⟨hS, ?_⟩
                refine A_take (i := 12) rfl (by kernel_rfl) (by kernel_rfl) (by kernel_rfl) rfl hS (fun _ hw => r_assignV (v := .int .i64 rn) rfl) ?_
                refine A_take (i := 13) rfl (by kernel_rfl) (by kernel_rfl) (by kernel_rfl) rfl hS (fun _ hw => r_assignV (v := .int .i64 ec) rfl) ?_
                refine A_done (by kernel_rfl) ?_
                refine W_seq ?_
                refine W_region ?_
                refine op rfl (r_loadRow rfl B13_10 Tryd.underlying52 rfl Tryd.sz52) ?_
                refine op_storeRow rfl rfl Tryd.sz52 B4_5 rfl rfl ?_
                intro w14_1 C14_1 BB14_1
                replace B13_10 := Chg.blk C14_1 B13_10 (fun q => hNb4_5_13_10 q.symm)
                replace hX := hX.chg C14_1 hG4_5
                replace B4_5 := BB14_1
                refine WL_nil ?_
                refine W_seq ?_
                refine W_drawF (W0 := w) (fun b : Nat => b = b4_5 ∨ b = b13_10 ∨ False) Tryd.wd rfl ?_
                intro wd15 hD
                replace B4_5 := Blk.ext B4_5 hD
                replace B13_10 := Blk.ext B13_10 hD
                replace hX := hX.trans hD
                have DB4_5 := B4_5
                have DB13_10 := B13_10
                have hS : Ext w wd15 ∧ Same (fun b : Nat => b = b4_5 ∨ b = b13_10 ∨ False) wd15 wd15 := ⟨hX, fun _ _ => rfl⟩
                refine A_take (i := 0) rfl (by kernel_rfl) (by kernel_rfl) (by kernel_rfl) rfl hS (fun _ hw => r_moveV (v := .int .i64 rn) rfl) ?_
                refine A_take (i := 1) rfl (by kernel_rfl) (by kernel_rfl) (by kernel_rfl) rfl hS (fun _ hw => r_moveV (v := .int .i64 rn) rfl) ?_
                refine A_take (i := 2) rfl (by kernel_rfl) (by kernel_rfl) (by kernel_rfl) rfl hS (fun _ hw => r_neq rfl rfl) ?_
                refine A_false (i := 3) rfl (by kernel_rfl) (by kernel_rfl) (by kernel_rfl) rfl hS (fun _ _ => r_moveV (v := .bool (decide _)) rfl) (fun h => h rfl) ?_
                refine A_takeG (i := 4) rfl (by kernel_rfl) (by kernel_rfl) (by kernel_rfl) rfl hS rfl rfl rfl rfl (fun _ hw => r_moveV (v := .int .i64 ec) rfl) ?_
                refine A_takeG (i := 5) rfl (by kernel_rfl) (by kernel_rfl) (by kernel_rfl) rfl hS rfl rfl rfl rfl (fun _ hw => r_moveV (v := .int .i64 ec) rfl) ?_
                refine A_takeG (i := 6) rfl (by kernel_rfl) (by kernel_rfl) (by kernel_rfl) rfl hS rfl rfl rfl rfl (fun _ hw => r_neq rfl rfl) ?_
                refine A_take (i := 7) rfl (by kernel_rfl) (by kernel_rfl) (by kernel_rfl) rfl hS (fun _ hw => r_pickFV (v := .bool _) rfl rfl) ?_
                refine A_false (i := 8) rfl (by kernel_rfl) (by kernel_rfl) (by kernel_rfl) rfl hS (fun _ _ => r_moveV (v := .bool (decide _)) rfl) (fun h => h rfl) ?_
                refine A_takeG (i := 9) rfl (by kernel_rfl) (by kernel_rfl) (by kernel_rfl) rfl hS rfl rfl rfl rfl (fun _ hw => r_moveV (v := hp p) (by rw [← hpv]; rfl)) ?_
                refine A_takeG (i := 11) rfl (by kernel_rfl) (by kernel_rfl) (by kernel_rfl) rfl hS rfl rfl rfl rfl (fun _ hw => r_loadRow rfl (Blk.at DB4_5 (hw.2 _ (Or.inl rfl))) Tryd.underlying52 rfl Tryd.sz52) ?_
                refine A_ready1 (i := 10) (by kernel_rfl) ?_
                have hs56 := hE56.size
                have hb13 : w5.heap.size ≤ b13_10 := by omega
                have z1 := C13_11.size
                have z2 := C14_1.size
                have hk : ∀ b, b < w6.heap.size → b ≠ b4_5 → b ≠ b13_10 → wd15.heap[b]? = w6.heap[b]? := fun b h1 h2 h3 => by
                  first
                    | (have z0 := E13_10.size; rw [hD.block b (by omega), C14_1.block b (by omega) h2, C13_11.block b (by omega) h3, E13_10.block b h1])
                    | (rw [hD.block b (by omega), C14_1.block b (by omega) h2, C13_11.block b (by omega) h3])
                have hs615 : w6.heap.size ≤ wd15.heap.size := by
                  have := hD.size
                  first
                    | (have z0 : w6.heap.size ≤ w13_10.heap.size := E13_10.size; omega)
                    | omega
                have hH15 : Hist p (fun b => (Z b ∨ since w0i w5 b) ∧ b < w5.heap.size) wd15 H1 := hH5.lt.keep (fun b hb => (hk b (by have := hb.2; omega) (fun q => by
                  rcases hb.1 with k | k
                  · exact (hZ b k).2.2 q
                  · have := k.1; omega) (by have := hb.2; omega)).trans (hE56.block b hb.2))
                have hR15 : RefH (fun b => b < wd15.heap.size ∧ ¬ (Z b ∨ since w0i w5 b) ∧ b ≠ b4_5) wd15 (.agg #[.slice AT1 H1.length cT1, .slice AM1 H1.length cM1]) H1 := hR7.keep (fun b hb => by
                  rcases hb with q | q
                  · exact hk b (by have := q.1; omega) q.2.2 (by have := q.1; omega)
                  · exact hk b q.2 (by have := q.1; omega) (by have := q.1; have := q.2; omega)) (fun b hb => by
                  rcases hb with q | q
                  · exact ⟨by have := q.1; omega, fun k => k.elim q.2.1 (fun k => by have := k.1; have := q.1; omega), q.2.2⟩
                  · have := q.1; have := q.2
                    exact ⟨by omega, fun k => k.elim (fun k => by have := (hZ b k).2.1; omega) (fun k => by have := k.2; omega), by omega⟩)
                refine O_callG rfl rfl rfl rfl rfl rfl (r_call Tryd.func15 Tryd.nm15 rfl) (head_spec hH15) ?_
                rintro v8 w8 ⟨rfl, hE⟩
                replace B4_5 := Blk.ext B4_5 hE
                replace B13_10 := Blk.ext B13_10 hE
                replace hX := hX.trans hE
                replace hS : Ext w w8 ∧ Same (fun b : Nat => b = b4_5 ∨ b = b13_10 ∨ False) wd15 w8 := ⟨hX, fun b hb => Or.elim hb (fun q => by subst q; exact Blk.eq B4_5 DB4_5) (fun hb => Or.elim hb (fun q => by subst q; exact Blk.eq B13_10 DB13_10) (fun hb => hb.elim))⟩
                refine ⟨hS, ?_⟩
                have hE8 := hE
                refine A_ready1 (i := 12) (by kernel_rfl) ?_
                refine O_callG rfl rfl rfl rfl rfl rfl (r_call Tryd.func20 Tryd.nm20 rfl) (refHead_spec _ (by have := (hist_len hH5).2; omega) _ rfl) ?_
                rintro v9 w9 ⟨rfl, hE⟩
                replace B4_5 := Blk.ext B4_5 hE
                replace B13_10 := Blk.ext B13_10 hE
                replace hX := hX.trans hE
                replace hS : Ext w w9 ∧ Same (fun b : Nat => b = b4_5 ∨ b = b13_10 ∨ False) wd15 w9 := ⟨hX, fun b hb => Or.elim hb (fun q => by subst q; exact Blk.eq B4_5 DB4_5) (fun hb => Or.elim hb (fun q => by subst q; exact Blk.eq B13_10 DB13_10) (fun hb => hb.elim))⟩
                refine ⟨hS, ?_⟩
                have hE9 := hE8.trans hE
                refine A_takeG (i := 13) rfl (by kernel_rfl) (by kernel_rfl) (by kernel_rfl) rfl hS rfl rfl rfl rfl (fun _ hw => r_neq rfl rfl) ?_
                refine A_take (i := 14) rfl (by kernel_rfl) (by kernel_rfl) (by kernel_rfl) rfl hS (fun _ hw => r_pickFV (v := .bool _) rfl rfl) ?_
                refine A_false (i := 15) rfl (by kernel_rfl) (by kernel_rfl) (by kernel_rfl) rfl hS (fun _ _ => r_moveV (v := .bool (decide _)) rfl) (fun h => h rfl) ?_
                refine A_takeG (i := 16) rfl (by kernel_rfl) (by kernel_rfl) (by kernel_rfl) rfl hS rfl rfl rfl rfl (fun _ hw => r_moveV (v := hp p) (by rw [← hpv]; rfl)) ?_
                refine A_takeG (i := 17) rfl (by kernel_rfl) (by kernel_rfl) (by kernel_rfl) rfl hS rfl rfl rfl rfl (fun _ hw => r_moveV (v := .int _ _) rfl) ?_
                refine A_takeG (i := 18) rfl (by kernel_rfl) (by kernel_rfl) (by kernel_rfl) rfl hS rfl rfl rfl rfl (fun _ hw => r_moveV (v := .slice _ _ _) rfl) ?_
                refine A_takeG (i := 20) rfl (by kernel_rfl) (by kernel_rfl) (by kernel_rfl) rfl hS rfl rfl rfl rfl (fun _ hw => r_loadRow rfl (Blk.at DB4_5 (hw.2 _ (Or.inl rfl))) Tryd.underlying52 rfl Tryd.sz52) ?_
                refine A_takeG (i := 21) rfl (by kernel_rfl) (by kernel_rfl) (by kernel_rfl) rfl hS rfl rfl rfl rfl (fun _ hw => r_moveV (v := .int _ _) rfl) ?_
                refine A_takeG (i := 22) rfl (by kernel_rfl) (by kernel_rfl) (by kernel_rfl) rfl hS rfl rfl rfl rfl (fun _ hw => r_moveV (v := .slice _ _ _) rfl) ?_
                refine A_ready1 (i := 19) (by kernel_rfl) ?_
                have hH16 := hH15.ext hE9
                refine O_callG rfl rfl rfl rfl rfl rfl (r_call Tryd.func14 Tryd.nm14 rfl) (since_spec (cs := cs) hH16 r (hrows.ext hX) hls) ?_
                rintro v10 w10 ⟨hO10, hE⟩
                replace B4_5 := Blk.ext B4_5 hE
                replace B13_10 := Blk.ext B13_10 hE
                replace hX := hX.trans hE
                replace hS : Ext w w10 ∧ Same (fun b : Nat => b = b4_5 ∨ b = b13_10 ∨ False) wd15 w10 := ⟨hX, fun b hb => Or.elim hb (fun q => by subst q; exact Blk.eq B4_5 DB4_5) (fun hb => Or.elim hb (fun q => by subst q; exact Blk.eq B13_10 DB13_10) (fun hb => hb.elim))⟩
                refine ⟨hS, ?_⟩
                have hE10 := hE9.trans hE
                have hE10' := hE
                refine A_ready1 (i := 23) (by kernel_rfl) ?_
                have hR16 := hR15.keep (fun b hb => hE10.block b hb.1) (fun _ h => h)
                have hG16 : ∀ b, (b < wd15.heap.size ∧ ¬ (Z b ∨ since w0i w5 b) ∧ b ≠ b4_5) → b < w10.heap.size := fun b hb => Nat.lt_of_lt_of_le hb.1 hE10.size
                refine O_callG rfl rfl rfl rfl rfl rfl (r_call Tryd.func26 Tryd.nm26 rfl) (refSince_spec (cs := cs) hR16 (hist_len hH5).1 (hist_len hH5).2 hG16 r (hrows.ext hX) hls) ?_
                rintro v11 w11 ⟨hO11, hE⟩
                replace B4_5 := Blk.ext B4_5 hE
                replace B13_10 := Blk.ext B13_10 hE
                replace hX := hX.trans hE
                replace hS : Ext w w11 ∧ Same (fun b : Nat => b = b4_5 ∨ b = b13_10 ∨ False) wd15 w11 := ⟨hX, fun b hb => Or.elim hb (fun q => by subst q; exact Blk.eq B4_5 DB4_5) (fun hb => Or.elim hb (fun q => by subst q; exact Blk.eq B13_10 DB13_10) (fun hb => hb.elim))⟩
                refine ⟨hS, ?_⟩
                obtain ⟨A12, c12, rfl, -, hr12⟩ := own_frow hO10
                obtain ⟨A13, c13, rfl, -, hr13⟩ := own_frow hO11
                have hE11 := hE
                have hsl : (sinceR H1 r ss).length ≤ ss.length := List.length_filter_le _ _
                refine A_ready1 (i := 24) (by kernel_rfl) ?_
                refine O_callG rfl rfl rfl rfl rfl rfl (r_call Tryd.func25 Tryd.nm25 rfl) (sameTexts_spec (hr12.ext hE11) hr13 (by omega)) ?_
                rintro v12 w12 ⟨rfl, hE⟩
                replace B4_5 := Blk.ext B4_5 hE
                replace B13_10 := Blk.ext B13_10 hE
                replace hX := hX.trans hE
                replace hS : Ext w w12 ∧ Same (fun b : Nat => b = b4_5 ∨ b = b13_10 ∨ False) wd15 w12 := ⟨hX, fun b hb => Or.elim hb (fun q => by subst q; exact Blk.eq B4_5 DB4_5) (fun hb => Or.elim hb (fun q => by subst q; exact Blk.eq B13_10 DB13_10) (fun hb => hb.elim))⟩
                refine ⟨hS, ?_⟩
                have hEe := (hE10.trans hE11).trans hE
                refine A_takeG (i := 25) rfl (by kernel_rfl) (by kernel_rfl) (by kernel_rfl) rfl hS rfl rfl rfl rfl (fun _ hw => r_notP rfl) ?_
                refine A_take (i := 26) rfl (by kernel_rfl) (by kernel_rfl) (by kernel_rfl) rfl hS (fun _ hw => r_pickFV (v := .bool _) rfl rfl) ?_
                refine A_done (by kernel_rfl) ?_
                refine W_ifp rfl (fun ht115 => ?_) (fun ht115 => ?_)
                · exact absurd rfl ht115
                · refine W_skip ?_
                  refine W_region ?_
                  refine op rfl (r_moveV (v := .int _ _) rfl) ?_
                  refine op rfl (r_add' (r := ((i + 1 : Nat) : Int)) rfl rfl (by rw [wrap_i64 (by omega) (by omega)]; omega)) ?_
                  refine op rfl (r_assignV (v := .int _ _) rfl) ?_
                  refine WL_nil ?_
                  refine ⟨?_, by repeat (first | with_reducible exact Out.refl _ _ | with_reducible exact Out.mix | refine Out.put rfl ?_ | refine Out.mixin rfl ?_ | exact Out.refl _ _ | exact Out.mix)⟩
                  refine ⟨l.length - (i + 1), by omega, i + 1, H1, fun b => (Z b ∨ since w0i w5 b) ∧ b < w5.heap.size, AT1, cT1, AM1, cM1, by omega, by omega, rfl, hH15.ext hEe, hR15.keep (fun b hb => hEe.block b hb.1) (fun b hb => ⟨Nat.lt_of_lt_of_le hb.1 hEe.size, fun q => hb.2.1 q.1, hb.2.2⟩), B4_5, fun b hb => ?_, hX⟩
                  have := hEe.size
                  rcases hb.1 with q | q
                  · obtain ⟨q1, q2, q3⟩ := hZ b q
                    exact ⟨q1, by have := hb.2; omega, q3⟩
                  · have := q.1; have := hX'.size; exact ⟨by omega, by have := hb.2; omega, by omega⟩
              · refine O_new rfl rfl (r_alloc Tryd.zero52) ?_
                intro w13_10 b13_10 E13_10 B13_10 L13_10
                have hG13_10 : w.heap.size ≤ b13_10 := by have := hX.size; omega
                have hNb4_5_13_10 : b4_5 ≠ b13_10 := by have := Blk.lt B4_5; omega
                replace B4_5 := Blk.ext B4_5 E13_10
                replace hX := hX.trans E13_10
                replace hS : Ext w w13_10 ∧ Same (fun b : Nat => b = b4_5 ∨ False) wd13 w13_10 := ⟨hX, fun b hb => Or.elim hb (fun q => by subst q; exact Blk.eq B4_5 DB4_5) (fun hb => hb.elim)⟩
                refine ⟨hS, ?_⟩
                refine A_ready1 (i := 5) (by kernel_rfl) ?_
                have hsD13 := hD.size
                first
                  | have lb13 := Blk.lt B13_10
                  | skip
                refine O_call rfl rfl (r_call Tryd.func24 Tryd.nm24 rfl) (hRc _ (by first | exact hD | exact hD.trans E13_10)) ?_
                rintro v6 w6 ⟨v7, rfl, hR6', hE⟩
                replace B4_5 := Blk.ext B4_5 hE
                replace B13_10 := Blk.ext B13_10 hE
                replace hX := hX.trans hE
                replace hS : Ext w w6 ∧ Same (fun b : Nat => b = b4_5 ∨ False) wd13 w6 := ⟨hX, fun b hb => Or.elim hb (fun q => by subst q; exact Blk.eq B4_5 DB4_5) (fun hb => hb.elim)⟩
                refine ⟨hS, ?_⟩
                have hR7 := hR6'
                obtain ⟨AT1, cT1, AM1, cM1, rfl, -⟩ := hR6'
                have hE56 : Ext w5 w6 := by first | exact hD.trans hE | exact (hD.trans E13_10).trans hE
                refine A_take (i := 6) rfl (by kernel_rfl) (by kernel_rfl) (by kernel_rfl) rfl hS (fun _ hw => r_moveV (v := .tuple #[.agg #[.slice AT1 H1.length cT1, .slice AM1 H1.length cM1], .int .i64 rn, .int .i64 ec]) rfl) ?_
                refine A_take (i := 7) rfl (by kernel_rfl) (by kernel_rfl) (by kernel_rfl) rfl hS (fun _ hw => r_extract (vs := [.agg #[.slice AT1 H1.length cT1, .slice AM1 H1.length cM1], .int .i64 rn, .int .i64 ec]) rfl rfl) ?_
                refine A_take (i := 8) rfl (by kernel_rfl) (by kernel_rfl) (by kernel_rfl) rfl hS (fun _ hw => r_extract (vs := [.agg #[.slice AT1 H1.length cT1, .slice AM1 H1.length cM1], .int .i64 rn, .int .i64 ec]) rfl rfl) ?_
                refine A_take (i := 9) rfl (by kernel_rfl) (by kernel_rfl) (by kernel_rfl) rfl hS (fun _ hw => r_extract (vs := [.agg #[.slice AT1 H1.length cT1, .slice AM1 H1.length cM1], .int .i64 rn, .int .i64 ec]) rfl rfl) ?_
                refine A_ready1 (i := 11) (by kernel_rfl) ?_
                refine O_storeRow rfl rfl rfl Tryd.sz52 B13_10 rfl rfl ?_
                intro w13_11 C13_11 BB13_11
                replace B4_5 := Chg.blk C13_11 B4_5 hNb4_5_13_10
                replace hX := hX.chg C13_11 hG13_10
                replace B13_10 := BB13_11
                replace hS : Ext w w13_11 ∧ Same (fun b : Nat => b = b4_5 ∨ False) wd13 w13_11 := ⟨hX, fun b hb => Or.elim hb (fun q => by subst q; exact Blk.eq B4_5 DB4_5) (fun hb => hb.elim)⟩
                refine ⟨hS, ?_⟩
                refine A_take (i := 12) rfl (by kernel_rfl) (by kernel_rfl) (by kernel_rfl) rfl hS (fun _ hw => r_assignV (v := .int .i64 rn) rfl) ?_
                refine A_take (i := 13) rfl (by kernel_rfl) (by kernel_rfl) (by kernel_rfl) rfl hS (fun _ hw => r_assignV (v := .int .i64 ec) rfl) ?_
                refine A_done (by kernel_rfl) ?_
                refine W_seq ?_
                refine W_region ?_
                refine op rfl (r_loadRow rfl B13_10 Tryd.underlying52 rfl Tryd.sz52) ?_
                refine op_storeRow rfl rfl Tryd.sz52 B4_5 rfl rfl ?_
                intro w14_1 C14_1 BB14_1
                replace B13_10 := Chg.blk C14_1 B13_10 (fun q => hNb4_5_13_10 q.symm)
                replace hX := hX.chg C14_1 hG4_5
                replace B4_5 := BB14_1
                refine WL_nil ?_
                refine W_seq ?_
                refine W_drawF (W0 := w) (fun b : Nat => b = b4_5 ∨ b = b13_10 ∨ False) Tryd.wd rfl ?_
                intro wd15 hD
                replace B4_5 := Blk.ext B4_5 hD
                replace B13_10 := Blk.ext B13_10 hD
                replace hX := hX.trans hD
                have DB4_5 := B4_5
                have DB13_10 := B13_10
                have hS : Ext w wd15 ∧ Same (fun b : Nat => b = b4_5 ∨ b = b13_10 ∨ False) wd15 wd15 := ⟨hX, fun _ _ => rfl⟩
                refine A_take (i := 0) rfl (by kernel_rfl) (by kernel_rfl) (by kernel_rfl) rfl hS (fun _ hw => r_moveV (v := .int .i64 rn) rfl) ?_
                refine A_take (i := 1) rfl (by kernel_rfl) (by kernel_rfl) (by kernel_rfl) rfl hS (fun _ hw => r_moveV (v := .int .i64 rn) rfl) ?_
                refine A_take (i := 2) rfl (by kernel_rfl) (by kernel_rfl) (by kernel_rfl) rfl hS (fun _ hw => r_neq rfl rfl) ?_
                refine A_false (i := 3) rfl (by kernel_rfl) (by kernel_rfl) (by kernel_rfl) rfl hS (fun _ _ => r_moveV (v := .bool (decide _)) rfl) (fun h => h rfl) ?_
                refine A_takeG (i := 4) rfl (by kernel_rfl) (by kernel_rfl) (by kernel_rfl) rfl hS rfl rfl rfl rfl (fun _ hw => r_moveV (v := .int .i64 ec) rfl) ?_
                refine A_takeG (i := 5) rfl (by kernel_rfl) (by kernel_rfl) (by kernel_rfl) rfl hS rfl rfl rfl rfl (fun _ hw => r_moveV (v := .int .i64 ec) rfl) ?_
                refine A_takeG (i := 6) rfl (by kernel_rfl) (by kernel_rfl) (by kernel_rfl) rfl hS rfl rfl rfl rfl (fun _ hw => r_neq rfl rfl) ?_
                refine A_take (i := 7) rfl (by kernel_rfl) (by kernel_rfl) (by kernel_rfl) rfl hS (fun _ hw => r_pickFV (v := .bool _) rfl rfl) ?_
                refine A_false (i := 8) rfl (by kernel_rfl) (by kernel_rfl) (by kernel_rfl) rfl hS (fun _ _ => r_moveV (v := .bool (decide _)) rfl) (fun h => h rfl) ?_
                refine A_takeG (i := 9) rfl (by kernel_rfl) (by kernel_rfl) (by kernel_rfl) rfl hS rfl rfl rfl rfl (fun _ hw => r_moveV (v := hp p) (by rw [← hpv]; rfl)) ?_
                refine A_takeG (i := 11) rfl (by kernel_rfl) (by kernel_rfl) (by kernel_rfl) rfl hS rfl rfl rfl rfl (fun _ hw => r_loadRow rfl (Blk.at DB4_5 (hw.2 _ (Or.inl rfl))) Tryd.underlying52 rfl Tryd.sz52) ?_
                refine A_ready1 (i := 10) (by kernel_rfl) ?_
                have hs56 := hE56.size
                have hb13 : w5.heap.size ≤ b13_10 := by omega
                have z1 := C13_11.size
                have z2 := C14_1.size
                have hk : ∀ b, b < w6.heap.size → b ≠ b4_5 → b ≠ b13_10 → wd15.heap[b]? = w6.heap[b]? := fun b h1 h2 h3 => by
                  first
                    | (have z0 := E13_10.size; rw [hD.block b (by omega), C14_1.block b (by omega) h2, C13_11.block b (by omega) h3, E13_10.block b h1])
                    | (rw [hD.block b (by omega), C14_1.block b (by omega) h2, C13_11.block b (by omega) h3])
                have hs615 : w6.heap.size ≤ wd15.heap.size := by
                  have := hD.size
                  first
                    | (have z0 : w6.heap.size ≤ w13_10.heap.size := E13_10.size; omega)
                    | omega
                have hH15 : Hist p (fun b => (Z b ∨ since w0i w5 b) ∧ b < w5.heap.size) wd15 H1 := hH5.lt.keep (fun b hb => (hk b (by have := hb.2; omega) (fun q => by
                  rcases hb.1 with k | k
                  · exact (hZ b k).2.2 q
                  · have := k.1; omega) (by have := hb.2; omega)).trans (hE56.block b hb.2))
                have hR15 : RefH (fun b => b < wd15.heap.size ∧ ¬ (Z b ∨ since w0i w5 b) ∧ b ≠ b4_5) wd15 (.agg #[.slice AT1 H1.length cT1, .slice AM1 H1.length cM1]) H1 := hR7.keep (fun b hb => by
                  rcases hb with q | q
                  · exact hk b (by have := q.1; omega) q.2.2 (by have := q.1; omega)
                  · exact hk b q.2 (by have := q.1; omega) (by have := q.1; have := q.2; omega)) (fun b hb => by
                  rcases hb with q | q
                  · exact ⟨by have := q.1; omega, fun k => k.elim q.2.1 (fun k => by have := k.1; have := q.1; omega), q.2.2⟩
                  · have := q.1; have := q.2
                    exact ⟨by omega, fun k => k.elim (fun k => by have := (hZ b k).2.1; omega) (fun k => by have := k.2; omega), by omega⟩)
                refine O_callG rfl rfl rfl rfl rfl rfl (r_call Tryd.func15 Tryd.nm15 rfl) (head_spec hH15) ?_
                rintro v8 w8 ⟨rfl, hE⟩
                replace B4_5 := Blk.ext B4_5 hE
                replace B13_10 := Blk.ext B13_10 hE
                replace hX := hX.trans hE
                replace hS : Ext w w8 ∧ Same (fun b : Nat => b = b4_5 ∨ b = b13_10 ∨ False) wd15 w8 := ⟨hX, fun b hb => Or.elim hb (fun q => by subst q; exact Blk.eq B4_5 DB4_5) (fun hb => Or.elim hb (fun q => by subst q; exact Blk.eq B13_10 DB13_10) (fun hb => hb.elim))⟩
                refine ⟨hS, ?_⟩
                have hE8 := hE
                refine A_ready1 (i := 12) (by kernel_rfl) ?_
                refine O_callG rfl rfl rfl rfl rfl rfl (r_call Tryd.func20 Tryd.nm20 rfl) (refHead_spec _ (by have := (hist_len hH5).2; omega) _ rfl) ?_
                rintro v9 w9 ⟨rfl, hE⟩
                replace B4_5 := Blk.ext B4_5 hE
                replace B13_10 := Blk.ext B13_10 hE
                replace hX := hX.trans hE
                replace hS : Ext w w9 ∧ Same (fun b : Nat => b = b4_5 ∨ b = b13_10 ∨ False) wd15 w9 := ⟨hX, fun b hb => Or.elim hb (fun q => by subst q; exact Blk.eq B4_5 DB4_5) (fun hb => Or.elim hb (fun q => by subst q; exact Blk.eq B13_10 DB13_10) (fun hb => hb.elim))⟩
                refine ⟨hS, ?_⟩
                have hE9 := hE8.trans hE
                refine A_takeG (i := 13) rfl (by kernel_rfl) (by kernel_rfl) (by kernel_rfl) rfl hS rfl rfl rfl rfl (fun _ hw => r_neq rfl rfl) ?_
                refine A_take (i := 14) rfl (by kernel_rfl) (by kernel_rfl) (by kernel_rfl) rfl hS (fun _ hw => r_pickFV (v := .bool _) rfl rfl) ?_
                refine A_false (i := 15) rfl (by kernel_rfl) (by kernel_rfl) (by kernel_rfl) rfl hS (fun _ _ => r_moveV (v := .bool (decide _)) rfl) (fun h => h rfl) ?_
                refine A_takeG (i := 16) rfl (by kernel_rfl) (by kernel_rfl) (by kernel_rfl) rfl hS rfl rfl rfl rfl (fun _ hw => r_moveV (v := hp p) (by rw [← hpv]; rfl)) ?_
                refine A_takeG (i := 17) rfl (by kernel_rfl) (by kernel_rfl) (by kernel_rfl) rfl hS rfl rfl rfl rfl (fun _ hw => r_moveV (v := .int _ _) rfl) ?_
                refine A_takeG (i := 18) rfl (by kernel_rfl) (by kernel_rfl) (by kernel_rfl) rfl hS rfl rfl rfl rfl (fun _ hw => r_moveV (v := .slice _ _ _) rfl) ?_
                refine A_takeG (i := 20) rfl (by kernel_rfl) (by kernel_rfl) (by kernel_rfl) rfl hS rfl rfl rfl rfl (fun _ hw => r_loadRow rfl (Blk.at DB4_5 (hw.2 _ (Or.inl rfl))) Tryd.underlying52 rfl Tryd.sz52) ?_
                refine A_takeG (i := 21) rfl (by kernel_rfl) (by kernel_rfl) (by kernel_rfl) rfl hS rfl rfl rfl rfl (fun _ hw => r_moveV (v := .int _ _) rfl) ?_
                refine A_takeG (i := 22) rfl (by kernel_rfl) (by kernel_rfl) (by kernel_rfl) rfl hS rfl rfl rfl rfl (fun _ hw => r_moveV (v := .slice _ _ _) rfl) ?_
                refine A_ready1 (i := 19) (by kernel_rfl) ?_
                have hH16 := hH15.ext hE9
                refine O_callG rfl rfl rfl rfl rfl rfl (r_call Tryd.func14 Tryd.nm14 rfl) (since_spec (cs := cs) hH16 r (hrows.ext hX) hls) ?_
                rintro v10 w10 ⟨hO10, hE⟩
                replace B4_5 := Blk.ext B4_5 hE
                replace B13_10 := Blk.ext B13_10 hE
                replace hX := hX.trans hE
                replace hS : Ext w w10 ∧ Same (fun b : Nat => b = b4_5 ∨ b = b13_10 ∨ False) wd15 w10 := ⟨hX, fun b hb => Or.elim hb (fun q => by subst q; exact Blk.eq B4_5 DB4_5) (fun hb => Or.elim hb (fun q => by subst q; exact Blk.eq B13_10 DB13_10) (fun hb => hb.elim))⟩
                refine ⟨hS, ?_⟩
                have hE10 := hE9.trans hE
                have hE10' := hE
                refine A_ready1 (i := 23) (by kernel_rfl) ?_
                have hR16 := hR15.keep (fun b hb => hE10.block b hb.1) (fun _ h => h)
                have hG16 : ∀ b, (b < wd15.heap.size ∧ ¬ (Z b ∨ since w0i w5 b) ∧ b ≠ b4_5) → b < w10.heap.size := fun b hb => Nat.lt_of_lt_of_le hb.1 hE10.size
                refine O_callG rfl rfl rfl rfl rfl rfl (r_call Tryd.func26 Tryd.nm26 rfl) (refSince_spec (cs := cs) hR16 (hist_len hH5).1 (hist_len hH5).2 hG16 r (hrows.ext hX) hls) ?_
                rintro v11 w11 ⟨hO11, hE⟩
                replace B4_5 := Blk.ext B4_5 hE
                replace B13_10 := Blk.ext B13_10 hE
                replace hX := hX.trans hE
                replace hS : Ext w w11 ∧ Same (fun b : Nat => b = b4_5 ∨ b = b13_10 ∨ False) wd15 w11 := ⟨hX, fun b hb => Or.elim hb (fun q => by subst q; exact Blk.eq B4_5 DB4_5) (fun hb => Or.elim hb (fun q => by subst q; exact Blk.eq B13_10 DB13_10) (fun hb => hb.elim))⟩
                refine ⟨hS, ?_⟩
                obtain ⟨A12, c12, rfl, -, hr12⟩ := own_frow hO10
                obtain ⟨A13, c13, rfl, -, hr13⟩ := own_frow hO11
                have hE11 := hE
                have hsl : (sinceR H1 r ss).length ≤ ss.length := List.length_filter_le _ _
                refine A_ready1 (i := 24) (by kernel_rfl) ?_
                refine O_callG rfl rfl rfl rfl rfl rfl (r_call Tryd.func25 Tryd.nm25 rfl) (sameTexts_spec (hr12.ext hE11) hr13 (by omega)) ?_
                rintro v12 w12 ⟨rfl, hE⟩
                replace B4_5 := Blk.ext B4_5 hE
                replace B13_10 := Blk.ext B13_10 hE
                replace hX := hX.trans hE
                replace hS : Ext w w12 ∧ Same (fun b : Nat => b = b4_5 ∨ b = b13_10 ∨ False) wd15 w12 := ⟨hX, fun b hb => Or.elim hb (fun q => by subst q; exact Blk.eq B4_5 DB4_5) (fun hb => Or.elim hb (fun q => by subst q; exact Blk.eq B13_10 DB13_10) (fun hb => hb.elim))⟩
                refine ⟨hS, ?_⟩
                have hEe := (hE10.trans hE11).trans hE
                refine A_takeG (i := 25) rfl (by kernel_rfl) (by kernel_rfl) (by kernel_rfl) rfl hS rfl rfl rfl rfl (fun _ hw => r_notP rfl) ?_
                refine A_take (i := 26) rfl (by kernel_rfl) (by kernel_rfl) (by kernel_rfl) rfl hS (fun _ hw => r_pickFV (v := .bool _) rfl rfl) ?_
                refine A_done (by kernel_rfl) ?_
                refine W_ifp rfl (fun ht115 => ?_) (fun ht115 => ?_)
                · exact absurd rfl ht115
                · refine W_skip ?_
                  refine W_region ?_
                  refine op rfl (r_moveV (v := .int _ _) rfl) ?_
                  refine op rfl (r_add' (r := ((i + 1 : Nat) : Int)) rfl rfl (by rw [wrap_i64 (by omega) (by omega)]; omega)) ?_
                  refine op rfl (r_assignV (v := .int _ _) rfl) ?_
                  refine WL_nil ?_
                  refine ⟨?_, by repeat (first | with_reducible exact Out.refl _ _ | with_reducible exact Out.mix | refine Out.put rfl ?_ | refine Out.mixin rfl ?_ | exact Out.refl _ _ | exact Out.mix)⟩
                  refine ⟨l.length - (i + 1), by omega, i + 1, H1, fun b => (Z b ∨ since w0i w5 b) ∧ b < w5.heap.size, AT1, cT1, AM1, cM1, by omega, by omega, rfl, hH15.ext hEe, hR15.keep (fun b hb => hEe.block b hb.1) (fun b hb => ⟨Nat.lt_of_lt_of_le hb.1 hEe.size, fun q => hb.2.1 q.1, hb.2.2⟩), B4_5, fun b hb => ?_, hX⟩
                  have := hEe.size
                  rcases hb.1 with q | q
                  · obtain ⟨q1, q2, q3⟩ := hZ b q
                    exact ⟨q1, by have := hb.2; omega, q3⟩
                  · have := q.1; have := hX'.size; exact ⟨by omega, by have := hb.2; omega, by omega⟩
            · obtain ⟨we, hwe⟩ : ∃ x, x = w0i := ⟨_, rfl⟩
              subst hwe
              have hok := hist_ok hH'
              have B4e := B4_5
              have hG : ∀ b, (b < we.heap.size ∧ ¬ Z b ∧ b ≠ b4_5) → b < we.heap.size := fun b hb => hb.1
              refine W_exit (blk_hit ?_)
              refine W_seq ?_
              refine W_seq ?_
              refine W_region ?_
              refine op rfl (r_assignV (v := .int _ _) rfl) ?_
              refine WL_nil ?_
              refine W_block ?_
              refine W_loop (8 :: 19 :: 20 :: 21 :: 22 :: 23 :: 24 :: 25 :: 26 :: 27 :: 116 :: 117 :: 118 :: 119 :: 120 :: 121 :: 122 :: 123 :: 124 :: 125 :: 126 :: 127 :: 128 :: 129 :: 130 :: 131 :: 132 :: 133 :: 134 :: 135 :: 136 :: 137 :: 138 :: 139 :: 140 :: 141 :: 142 :: 143 :: 144 :: 145 :: 146 :: 147 :: 148 :: 149 :: 150 :: 151 :: 152 :: 153 :: 154 :: 155 :: 156 :: 157 :: 158 :: 159 :: 160 :: 161 :: 162 :: 163 :: 164 :: 165 :: 166 :: []) (fun q e' w' => ∃ (k : Nat), q = H.length + 2 - k ∧ k ≤ H.length + 2 ∧ e' 19 = .int .i64 ((k : Int) - 1) ∧ Ext we w') (H.length + 2) ?_ ?_
              · exact ⟨0, by omega, by omega, rfl, Ext.refl _⟩
              intro k g w' hI
              obtain ⟨k, hqk, hkl, h19, hX''⟩ := hI
              clear hX
              have hX := hX''
              clear B4_5
              have B4_5 := Blk.ext B4e hX
              refine W_set (i := 19) h19 ?_
              refine W_seq ?_
              refine W_seq ?_
              refine W_region ?_
              refine op rfl (r_moveV (v := .int _ _) rfl) ?_
              refine op rfl (r_moveV (v := hp p) (by rw [← hpv]; rfl)) ?_
              refine opCv rfl (r_call Tryd.func15 Tryd.nm15 rfl) (head_spec (hH'.ext hX)) ?_
              rintro v20 w20 ⟨rfl, hE⟩
              replace B4_5 := Blk.ext B4_5 hE
              replace hX := hX.trans hE
              refine op rfl (r_add' (r := (H.length : Int)) rfl rfl (by rw [wrap_i64 (by omega) (by omega)]; omega)) ?_
              refine op rfl (r_leq rfl rfl) ?_
              refine WL_nil ?_
              refine W_ifp rfl (fun ht120 => ?_) (fun ht120 => ?_)
              · refine W_skip ?_
                refine W_seq ?_
                refine W_block ?_
                refine W_seq ?_
                refine W_region ?_
                refine op rfl (r_moveV (v := hp p) (by rw [← hpv]; rfl)) ?_
                refine op rfl (r_moveV (v := .int _ _) rfl) ?_
                refine opCv rfl (r_call Tryd.func16 Tryd.nm16 rfl) (histAt_spec (hH'.ext hX) ((k : Int) - 1)) ?_
                rintro v21 w21 ⟨v22, rfl, hO21, hE⟩
                replace B4_5 := Blk.ext B4_5 hE
                replace hX := hX.trans hE
                have hwk : we.heap.size ≤ w21.heap.size := hX.size
                obtain ⟨A21, c21, rfl, -, hr21⟩ := hO21.rd
                refine op rfl (r_moveV (v := .tuple #[.slice A21 (getR H ((k : Int) - 1)).t.length c21, .int .i64 (errR H ((k : Int) - 1))]) rfl) ?_
                refine op rfl (r_extract (vs := [.slice A21 (getR H ((k : Int) - 1)).t.length c21, .int .i64 (errR H ((k : Int) - 1))]) rfl rfl) ?_
                refine op rfl (r_extract (vs := [.slice A21 (getR H ((k : Int) - 1)).t.length c21, .int .i64 (errR H ((k : Int) - 1))]) rfl rfl) ?_
                refine op rfl (r_assignV (v := .slice A21 (getR H ((k : Int) - 1)).t.length c21) rfl) ?_
                refine op rfl (r_assignV (v := .int .i64 (errR H ((k : Int) - 1))) rfl) ?_
                refine WL_nil ?_
                refine W_seq ?_
                refine W_region ?_
                refine op rfl (r_loadRow rfl B4_5 Tryd.underlying52 rfl Tryd.sz52) ?_
                refine op rfl (r_moveV (v := .int _ _) rfl) ?_
                refine opCv rfl (r_call Tryd.func27 Tryd.nm27 rfl) (refAt_spec (hRf.keep (fun b hb ↦ hX.block b hb.1) (fun _ h ↦ h)) hHl.2 (fun b hb ↦ Nat.lt_of_lt_of_le hb.1 hX.size) ((k : Int) - 1)) ?_
                rintro v23 w23 ⟨A23, c23, rfl, -, hr23, hE⟩
                replace B4_5 := Blk.ext B4_5 hE
                replace hX := hX.trans hE
                have hE21 := hE
                refine op rfl (r_moveV (v := .tuple #[.slice A23 (getR H ((k : Int) - 1)).t.length c23, .int .i64 (errR H ((k : Int) - 1))]) rfl) ?_
                refine op rfl (r_extract (vs := [.slice A23 (getR H ((k : Int) - 1)).t.length c23, .int .i64 (errR H ((k : Int) - 1))]) rfl rfl) ?_
                refine op rfl (r_extract (vs := [.slice A23 (getR H ((k : Int) - 1)).t.length c23, .int .i64 (errR H ((k : Int) - 1))]) rfl rfl) ?_
                refine op rfl (r_assignV (v := .slice A23 (getR H ((k : Int) - 1)).t.length c23) rfl) ?_
                refine op rfl (r_assignV (v := .int .i64 (errR H ((k : Int) - 1))) rfl) ?_
                refine WL_nil ?_
                refine W_seq ?_
                refine W_region ?_
                refine op rfl (r_moveV (v := hp p) (by rw [← hpv]; rfl)) ?_
                refine op rfl (r_moveV (v := .int _ _) rfl) ?_
                refine opCv rfl (r_call Tryd.func19 Tryd.nm19 rfl) (histDeltas_spec (hH'.ext hX) ((k : Int) - 1)) ?_
                rintro v24 w24 ⟨v25, rfl, hO24, hE⟩
                replace B4_5 := Blk.ext B4_5 hE
                replace hX := hX.trans hE
                obtain ⟨A24, c24, rfl, -, hr24⟩ := hO24.rd
                have hE22 := hE
                refine op rfl (r_moveV (v := .tuple #[.slice A24 (getR H ((k : Int) - 1)).d.length c24, .int .i64 (errR H ((k : Int) - 1))]) rfl) ?_
                refine op rfl (r_extract (vs := [.slice A24 (getR H ((k : Int) - 1)).d.length c24, .int .i64 (errR H ((k : Int) - 1))]) rfl rfl) ?_
                refine op rfl (r_extract (vs := [.slice A24 (getR H ((k : Int) - 1)).d.length c24, .int .i64 (errR H ((k : Int) - 1))]) rfl rfl) ?_
                refine op rfl (r_assignV (v := .slice A24 (getR H ((k : Int) - 1)).d.length c24) rfl) ?_
                refine op rfl (r_assignV (v := .int .i64 (errR H ((k : Int) - 1))) rfl) ?_
                refine WL_nil ?_
                refine W_seq ?_
                refine W_region ?_
                refine op rfl (r_loadRow rfl B4_5 Tryd.underlying52 rfl Tryd.sz52) ?_
                refine op rfl (r_moveV (v := .int _ _) rfl) ?_
                refine opCv rfl (r_call Tryd.func28 Tryd.nm28 rfl) (refDeltas_spec (hRf.keep (fun b hb ↦ hX.block b hb.1) (fun _ h ↦ h)) hHl.2 (fun b hb ↦ Nat.lt_of_lt_of_le hb.1 hX.size) ((k : Int) - 1)) ?_
                rintro v26 w26 ⟨A26, c26, rfl, -, hr26, hE⟩
                replace B4_5 := Blk.ext B4_5 hE
                replace hX := hX.trans hE
                have hE23 := hE
                have hg0 := getR_ok hok ((k : Int) - 1)
                refine op rfl (r_moveV (v := .tuple #[.slice A26 (getR H ((k : Int) - 1)).d.length c26, .int .i64 (errR H ((k : Int) - 1))]) rfl) ?_
                refine op rfl (r_extract (vs := [.slice A26 (getR H ((k : Int) - 1)).d.length c26, .int .i64 (errR H ((k : Int) - 1))]) rfl rfl) ?_
                refine op rfl (r_extract (vs := [.slice A26 (getR H ((k : Int) - 1)).d.length c26, .int .i64 (errR H ((k : Int) - 1))]) rfl rfl) ?_
                refine op rfl (r_assignV (v := .slice A26 (getR H ((k : Int) - 1)).d.length c26) rfl) ?_
                refine op rfl (r_assignV (v := .int .i64 (errR H ((k : Int) - 1))) rfl) ?_
                refine WL_nil ?_
                refine W_seq ?_
                refine W_region ?_
                refine op rfl (r_moveV (v := .slice A21 (getR H ((k : Int) - 1)).t.length c21) rfl) ?_
                refine op rfl (r_moveV (v := .slice A23 (getR H ((k : Int) - 1)).t.length c23) rfl) ?_
                have hs21 := hE21.size
                have hs22 := hE22.size
                have hs23 := hE23.size
                have hra : fiT.Row w26 (old w26) A21 (getR H ((k : Int) - 1)).t := hr21.keep (fun b hb => ((hE21.trans hE22).trans hE23).block b hb.2) (fun b hb => by have := hb.2; show b < _; omega)
                have hrb : fiT.Row w26 (old w26) A23 (getR H ((k : Int) - 1)).t := hr23.keep (fun b hb => (hE22.trans hE23).block b (by have := hb.1; have := hwk; omega)) (fun b hb => by have := hb.1; have := hwk; show b < _; omega)
                refine opCv rfl (r_call Tryd.func18 Tryd.nm18 rfl) (same_spec hra hrb (by have := hg0.1; omega)) ?_
                rintro v27 w27 ⟨rfl, hE⟩
                replace B4_5 := Blk.ext B4_5 hE
                replace hX := hX.trans hE
                have hE27 := hE
                refine op rfl (r_notP rfl) ?_
                refine op_false rfl (r_moveV (v := .bool (decide _)) rfl) (fun h => h rfl) ?_
                refine opG_yes rfl rfl rfl rfl rfl (r_moveV (v := .int .i64 (errR H ((k : Int) - 1))) rfl) ?_
                refine opG_yes rfl rfl rfl rfl rfl (r_moveV (v := .int .i64 (errR H ((k : Int) - 1))) rfl) ?_
                refine opG_yes rfl rfl rfl rfl rfl (r_neq rfl rfl) ?_
                refine op rfl (r_pickFV (v := .bool _) rfl rfl) ?_
                refine op_false rfl (r_moveV (v := .bool (decide _)) rfl) (fun h => h rfl) ?_
                refine opG_yes rfl rfl rfl rfl rfl (r_moveV (v := .slice A24 (getR H ((k : Int) - 1)).d.length c24) rfl) ?_
                refine opG_yes rfl rfl rfl rfl rfl (r_moveV (v := .slice A26 (getR H ((k : Int) - 1)).d.length c26) rfl) ?_
                have hrc : dlT.Row w27 (old w27) A24 (getR H ((k : Int) - 1)).d := hr24.keep (fun b hb => (hE23.trans hE27).block b hb.2) (fun b hb => by have := hb.2; have := (hE23.trans hE27).size; show b < _; omega)
                have hrd : dlT.Row w27 (old w27) A26 (getR H ((k : Int) - 1)).d := hr26.keep (fun b hb => hE27.block b (by have := hb.1; have := hwk; omega)) (fun b hb => by have := hb.1; have := hwk; have := hE27.size; show b < _; omega)
                refine opGCv_yes rfl rfl rfl rfl rfl (r_call Tryd.func21 Tryd.nm21 rfl) (sameD_spec hrc hrd (by have := hg0.2.1; omega)) ?_
                rintro v28 w28 ⟨rfl, hE⟩
                replace B4_5 := Blk.ext B4_5 hE
                replace hX := hX.trans hE
                refine opG_yes rfl rfl rfl rfl rfl (r_notP rfl) ?_
                refine op rfl (r_pickFV (v := .bool _) rfl rfl) ?_
                refine op_false rfl (r_moveV (v := .bool (decide _)) rfl) (fun h => h rfl) ?_
                refine opG_yes rfl rfl rfl rfl rfl (r_moveV (v := .int .i64 (errR H ((k : Int) - 1))) rfl) ?_
                refine opG_yes rfl rfl rfl rfl rfl (r_moveV (v := .int .i64 (errR H ((k : Int) - 1))) rfl) ?_
                refine opG_yes rfl rfl rfl rfl rfl (r_neq rfl rfl) ?_
                refine op rfl (r_pickFV (v := .bool _) rfl rfl) ?_
                refine WL_nil ?_
                refine W_ifp rfl (fun ht166 => ?_) (fun ht166 => ?_)
                · exact absurd rfl ht166
                · refine W_skip ?_
                  refine W_region ?_
                  refine op rfl (r_moveV (v := .int _ _) rfl) ?_
                  refine op rfl (r_add' (r := ((k + 1 : Nat) : Int) - 1) rfl rfl (by rw [wrap_i64 (by omega) (by omega)]; omega)) ?_
                  refine op rfl (r_assignV (v := .int _ _) rfl) ?_
                  refine WL_nil ?_
                  refine ⟨?_, by repeat (first | with_reducible exact Out.refl _ _ | with_reducible exact Out.mix | refine Out.put rfl ?_ | refine Out.mixin rfl ?_ | exact Out.refl _ _ | exact Out.mix)⟩
                  exact ⟨H.length + 2 - (k + 1), by omega, k + 1, rfl, by omega, rfl, hX⟩
              · refine W_exit (blk_hit ?_)
                refine W_seq ?_
                refine W_seq ?_
                refine W_region ?_
                refine op rfl (r_assignV (v := .int _ _) rfl) ?_
                refine WL_nil ?_
                refine W_block ?_
                refine W_loop [8, 28, 167, 168, 169, 170, 171, 172, 173, 174, 175, 176, 177, 178, 179, 180, 181, 182, 183, 184, 185] (fun q e' w' => ∃ (i : Nat), q = ss.length - i ∧ i ≤ ss.length ∧ e' 28 = .int .i64 i ∧ Ext we w') (ss.length) ?_ ?_
                · exact ⟨0, by omega, by omega, rfl, hX⟩
                intro k g w' hI
                obtain ⟨j, hqj, hjl, h28, hX3'⟩ := hI
                clear hX
                have hX := hX3'
                clear B4_5
                have B4_5 := Blk.ext B4e hX
                refine W_set (i := 28) h28 ?_
                refine W_seq ?_
                refine W_seq ?_
                refine W_region ?_
                refine op rfl (r_moveV (v := .int _ _) rfl) ?_
                refine op rfl (r_moveV (v := .slice _ _ _) rfl) ?_
                refine op rfl (r_len_slice rfl Tryd.underlying38) ?_
                refine op rfl (r_lss rfl rfl) ?_
                refine WL_nil ?_
                refine W_ifp rfl (fun ht170 => ?_) (fun ht170 => ?_)
                · have hltj : j < ss.length := by omega
                  obtain ⟨g2, off2, hA2, _, hsl2, hcell2⟩ := hrows.cell hltj
                  refine W_skip ?_
                  refine W_seq ?_
                  refine W_block ?_
                  refine W_seq ?_
                  refine W_drawF (W0 := we) (fun b : Nat => b = b4_5 ∨ False) Tryd.wd rfl ?_
                  intro wd29 hD
                  replace B4_5 := Blk.ext B4_5 hD
                  replace hX := hX.trans hD
                  have DB4_5 := B4_5
                  have hS : Ext we wd29 ∧ Same (fun b : Nat => b = b4_5 ∨ False) wd29 wd29 := ⟨hX, fun _ _ => rfl⟩
                  refine A_take (i := 0) rfl (by kernel_rfl) (by kernel_rfl) (by kernel_rfl) rfl hS (fun _ hw => r_moveV (v := hp p) (by rw [← hpv]; rfl)) ?_
                  refine A_take (i := 1) rfl (by kernel_rfl) (by kernel_rfl) (by kernel_rfl) rfl hS (fun _ hw => r_moveV (v := .slice _ _ _) rfl) ?_
                  refine A_take (i := 2) rfl (by kernel_rfl) (by kernel_rfl) (by kernel_rfl) rfl hS (fun _ hw => r_moveV (v := .int _ _) rfl) ?_
                  refine A_take (i := 3) rfl (by kernel_rfl) (by kernel_rfl) (by kernel_rfl) rfl hS (fun _ hw => r_indexAddr1 rfl rfl hA2 Tryd.underlying38 Tryd.sz9 (by omega) (by omega)) ?_
                  refine A_take (i := 4) rfl (by kernel_rfl) (by kernel_rfl) (by kernel_rfl) rfl hS (fun _ hw => r_load (v := .string (str ss[j])) rfl Tryd.underlying9 rfl (ext_cell (hX'.trans hw.1) hcell2)) ?_
                  refine A_take (i := 6) rfl (by kernel_rfl) (by kernel_rfl) (by kernel_rfl) rfl hS (fun _ hw => r_loadRow rfl (Blk.at DB4_5 (hw.2 _ (Or.inl rfl))) Tryd.underlying52 rfl Tryd.sz52) ?_
                  refine A_take (i := 7) rfl (by kernel_rfl) (by kernel_rfl) (by kernel_rfl) rfl hS (fun _ hw => r_moveV (v := .slice _ _ _) rfl) ?_
                  refine A_take (i := 8) rfl (by kernel_rfl) (by kernel_rfl) (by kernel_rfl) rfl hS (fun _ hw => r_moveV (v := .int _ _) rfl) ?_
                  refine A_take (i := 9) rfl (by kernel_rfl) (by kernel_rfl) (by kernel_rfl) rfl hS (fun _ hw => r_indexAddr1 rfl rfl hA2 Tryd.underlying38 Tryd.sz9 (by omega) (by omega)) ?_
                  refine A_take (i := 10) rfl (by kernel_rfl) (by kernel_rfl) (by kernel_rfl) rfl hS (fun _ hw => r_load (v := .string (str ss[j])) rfl Tryd.underlying9 rfl (ext_cell (hX'.trans hw.1) hcell2)) ?_
                  refine A_ready1 (i := 5) (by kernel_rfl) ?_
                  refine O_call rfl rfl (r_call Tryd.func13 Tryd.nm13 rfl) (last_spec (hH'.ext hX) ss[j]) ?_
                  rintro v30 w30 ⟨rfl, hE⟩
                  replace B4_5 := Blk.ext B4_5 hE
                  replace hX := hX.trans hE
                  replace hS : Ext we w30 ∧ Same (fun b : Nat => b = b4_5 ∨ False) wd29 w30 := ⟨hX, fun b hb => Or.elim hb (fun q => by subst q; exact Blk.eq B4_5 DB4_5) (fun hb => hb.elim)⟩
                  refine ⟨hS, ?_⟩
                  refine A_ready1 (i := 11) (by kernel_rfl) ?_
                  refine O_call rfl rfl (r_call Tryd.func29 Tryd.nm29 rfl) (refLast_spec (hRf.keep (fun b hb ↦ hX.block b hb.1) (fun _ h ↦ h)) hHl.1 hHl.2 (fun b hb ↦ Nat.lt_of_lt_of_le hb.1 hX.size) ss[j]) ?_
                  rintro v31 w31 ⟨rfl, hE⟩
                  replace B4_5 := Blk.ext B4_5 hE
                  replace hX := hX.trans hE
                  replace hS : Ext we w31 ∧ Same (fun b : Nat => b = b4_5 ∨ False) wd29 w31 := ⟨hX, fun b hb => Or.elim hb (fun q => by subst q; exact Blk.eq B4_5 DB4_5) (fun hb => hb.elim)⟩
                  refine ⟨hS, ?_⟩
                  refine A_take (i := 12) rfl (by kernel_rfl) (by kernel_rfl) (by kernel_rfl) rfl hS (fun _ hw => r_neq rfl rfl) ?_
                  refine A_done (by kernel_rfl) ?_
                  refine W_ifp rfl (fun ht185 => ?_) (fun ht185 => ?_)
                  · exact absurd rfl ht185
                  · refine W_skip ?_
                    refine W_region ?_
                    refine op rfl (r_moveV (v := .int _ _) rfl) ?_
                    refine op rfl (r_add' (r := ((j + 1 : Nat) : Int)) rfl rfl (by rw [wrap_i64 (by omega) (by omega)]; omega)) ?_
                    refine op rfl (r_assignV (v := .int _ _) rfl) ?_
                    refine WL_nil ?_
                    refine ⟨?_, by repeat (first | with_reducible exact Out.refl _ _ | with_reducible exact Out.mix | refine Out.put rfl ?_ | refine Out.mixin rfl ?_ | exact Out.refl _ _ | exact Out.mix)⟩
                    exact ⟨ss.length - (j + 1), by omega, j + 1, rfl, by omega, rfl, hX⟩
                · refine W_exit (blk_hit ?_)
                  refine W_seq ?_
                  refine W_region ?_
                  refine opCv rfl (r_call Tryd.func10 Tryd.nm10 rfl) (known_spec _) ?_
                  rintro v32 w32 ⟨rfl, hE⟩
                  replace B4_5 := Blk.ext B4_5 hE
                  replace hX := hX.trans hE
                  refine op rfl (r_assignV (v := .bool _) rfl) ?_
                  refine WL_nil ?_
                  refine W_ret (finX_ret ?_)
                  refine fin1 ?_
                  first
                    | exact ⟨_, rfl, by first | rfl | exact (bool_tt trivial).symm, hX⟩
                    | exact ⟨_, rfl, by first | rfl | exact (bool_tt trivial).symm, hX'.trans hX⟩
      · refine opG_no rfl rfl rfl rfl rfl ?_
        refine opG_no rfl rfl rfl rfl rfl ?_
        refine opG_yes rfl rfl rfl rfl rfl (r_pickFV (v := .bool _) rfl rfl) ?_
        refine op rfl (r_pickFV (v := .bool _) rfl rfl) ?_
        refine WL_nil ?_
        refine W_else rfl ?_
        refine W_skip ?_
        refine W_seq ?_
        refine W_seq ?_
        refine W_region ?_
        refine op rfl (r_moveV (v := .int .i64 (if rightT t then 0 else 2)) rfl) ?_
        refine op rfl (r_neq rfl rfl) ?_
        refine WL_nil ?_
        refine W_ifp rfl (fun ht61 => ?_) (fun ht61 => ?_)
        · refine W_seq ?_
          refine W_region ?_
          refine opCv rfl (r_call Tryd.func10 Tryd.nm10 rfl) (known_spec _) ?_
          rintro v9 w9 ⟨rfl, hE⟩
          replace B4_5 := Blk.ext B4_5 hE
          replace hX := hX.trans hE
          refine op rfl (r_assignV (v := .bool _) rfl) ?_
          refine WL_nil ?_
          refine W_ret (finX_ret ?_)
          refine fin1 ?_
          first
            | exact ⟨_, rfl, by first | rfl | exact (bool_tt trivial).symm, hX⟩
            | exact ⟨_, rfl, by first | rfl | exact (bool_tt trivial).symm, hX'.trans hX⟩
        · have hr : rightT t := Classical.byContradiction (fun q => ht61 (by rw [if_neg q]; decide))
          obtain ⟨p, hpv, hH0⟩ := hH hr
          rw [if_pos hr] at hR4' hn0
          have hn1 : n0 = 1 := hn0
          subst hn1
          have hs1 := hX1.size
          have hs3 := hX3.size
          have hs34 := hE34.size
          have hS46 : ∀ b, b < w4.heap.size → w4_6.heap[b]? = w4.heap[b]? := fun b hb => (C4_6.block b (by have := E4_5.size; omega) (by omega)).trans (E4_5.block b hb)
          have hH6 : Hist p (since w2 w3) w4_6 [⟨[], t⟩] := (hH0.ext hE34).keep (fun b hb => hS46 b (by have := hb.2; omega))
          have hs46 : w4.heap.size ≤ w4_6.heap.size := by have := E4_5.size; have := C4_6.size; omega
          have hR6 : RefH (fun b => b < w4_6.heap.size ∧ ¬ since w2 w3 b ∧ b ≠ b4_5) w4_6 (.agg #[.slice AT 1 cT, .slice AM 1 cM]) [⟨[], t⟩] := hR4'.keep (fun b hb => hS46 b (by rcases hb with q | q; (have : b < w.heap.size := q; omega); exact q.2)) (fun b hb => by
            rcases hb with q | q
            · have : b < w.heap.size := q
              exact ⟨by omega, fun k => by have := k.1; omega, by omega⟩
            · have := q.1; have := q.2
              exact ⟨by omega, fun k => by have := k.2; omega, by omega⟩)
          refine W_skip ?_
          refine W_seq ?_
          refine W_seq ?_
          refine W_region ?_
          refine op rfl (r_assignV (v := .int _ _) rfl) ?_
          refine WL_nil ?_
          refine W_block ?_
          refine W_loop (8 :: 13 :: 14 :: 15 :: 16 :: 17 :: 18 :: 63 :: 64 :: 65 :: 66 :: 67 :: 68 :: 69 :: 70 :: 71 :: 72 :: 73 :: 74 :: 75 :: 76 :: 77 :: 78 :: 79 :: 80 :: 81 :: 82 :: 83 :: 84 :: 85 :: 86 :: 87 :: 88 :: 89 :: 90 :: 91 :: 92 :: 93 :: 94 :: 95 :: 96 :: 97 :: 98 :: 99 :: 100 :: 101 :: 102 :: 103 :: 104 :: 105 :: 106 :: 107 :: 108 :: 109 :: 110 :: 111 :: 112 :: 113 :: 114 :: 115 :: []) (fun q e' w' => ∃ (i : Nat) (H : List Rv) (Z : Nat → Prop) (AT : Option Addr) (cT : Nat) (AM : Option Addr) (cM : Nat), q = l.length - i ∧ i ≤ l.length ∧ e' 13 = .int .i64 i ∧ Hist p Z w' H ∧ RefH (fun b => b < w'.heap.size ∧ ¬ Z b ∧ b ≠ b4_5) w' (.agg #[.slice AT H.length cT, .slice AM H.length cM]) H ∧ Blk w' b4_5 #[.slice AT H.length cT, .slice AM H.length cM] 52 ∧ (∀ b, Z b → w.heap.size ≤ b ∧ b < w'.heap.size ∧ b ≠ b4_5) ∧ Ext w w') (l.length) ?_ ?_
          · exact ⟨0, [⟨[], t⟩], _, AT, cT, AM, cM, by omega, by omega, rfl, hH6, hR6, B4_5, fun b hb => ⟨by have := hb.1; omega, by have := hb.2; omega, by have := hb.2; omega⟩, hX⟩
          intro k g w' hI
          clear B4_5
          obtain ⟨i, H, Z, AT, cT, AM, cM, hq0, hi, h13, hH', hRf, B4_5, hZ, hX'⟩ := hI
          clear hX
          have hX := hX'
          have hHl := hist_len hH'
          have hbu := Blk.lt B4_5
          obtain ⟨w0i, hw0i⟩ : ∃ x, x = w' := ⟨_, rfl⟩
          subst hw0i
          refine W_set (i := 13) h13 ?_
          refine W_seq ?_
          refine W_seq ?_
          refine W_region ?_
          refine op rfl (r_moveV (v := .int _ _) rfl) ?_
          refine op rfl (r_moveV (v := .slice _ _ _) rfl) ?_
          refine op rfl (r_len_slice rfl Tryd.underlying24) ?_
          refine op rfl (r_lss rfl rfl) ?_
          refine WL_nil ?_
          refine W_ifp rfl (fun ht66 => ?_) (fun ht66 => ?_)
          · have hlt : i < l.length := by omega
            obtain ⟨g1, off1, Ai, ci, hA, -, hcell, hci, hbl, hrr⟩ := hrowl.cellW hlt
            refine W_skip ?_
            refine W_seq ?_
            refine W_block ?_
            refine W_seq ?_
            refine W_region ?_
            refine op rfl (r_moveV (v := hp p) (by rw [← hpv]; rfl)) ?_
            refine op rfl (r_moveV (v := .slice _ _ _) rfl) ?_
            refine op rfl (r_moveV (v := .int _ _) rfl) ?_
            refine op rfl (r_indexAddr1 rfl rfl hA Tryd.underlying24 Tryd.sz33 (by omega) (by omega)) ?_
            refine op rfl (r_load (v := .slice Ai l[i].length ci) rfl Tryd.underlying33 rfl (ext_cell hX hcell)) ?_
            refine opCv rfl (r_call Tryd.func12 Tryd.nm12 rfl) (commit_spec (cd := ci) hH' (fun b hb ↦ ⟨Nat.lt_of_lt_of_le hb hX.size, fun q ↦ by have := (hZ b q).1; have : b < w.heap.size := hb; omega⟩) (hrr.keep (fun b hb ↦ hX.block b hb) (fun _ h ↦ h)) hbl) ?_
            rintro v5 w5 ⟨hv5, hH5, hM⟩
            obtain ⟨H1, hH1⟩ : ∃ x, x = (commitR H l[i]).1 := ⟨_, rfl⟩
            obtain ⟨rn, hrn⟩ : ∃ x, x = (commitR H l[i]).2.1 := ⟨_, rfl⟩
            obtain ⟨ec, hec⟩ : ∃ x, x = (commitR H l[i]).2.2 := ⟨_, rfl⟩
            rw [← hrn, ← hec] at hv5
            subst hv5
            rw [← hH1] at hH5
            have hX5 : Ext w w5 := ext_mv hX hM (fun b hb => (hZ b hb).1)
            clear hX
            have hX := hX5
            have hs5 := hM.size
            have hB5 : Blk w5 b4_5 _ _ := hM.blk B4_5 (fun q => (hZ _ q).2.2 rfl)
            clear B4_5
            have B4_5 := hB5
            have hRf5 : RefH (fun b => b < w0i.heap.size ∧ ¬ Z b ∧ b ≠ b4_5) w5 (.agg #[.slice AT H.length cT, .slice AM H.length cM]) H := hRf.keep (fun b hb => hM.block b hb.1 hb.2.1) (fun _ h => h)
            have hRc : ∀ W, Ext w5 W → Calls Tryd.prog 24 #[.agg #[.slice AT H.length cT, .slice AM H.length cM], .slice Ai l[i].length ci] W (fun en w' => ∃ v', en = .returned v' ∧ ∃ v1, v' = .tuple #[v1, .int .i64 rn, .int .i64 ec] ∧ RefH (fun b => (b < w0i.heap.size ∧ ¬ Z b ∧ b ≠ b4_5) ∨ since W w' b) w' v1 H1 ∧ Ext W w') := fun W he => by
              have := refCommit_spec (cd := ci) (w := W) (G := fun b => b < w0i.heap.size ∧ ¬ Z b ∧ b ≠ b4_5) (hRf5.keep (fun b hb => he.block b (by have := hb.1; omega)) (fun _ h => h)) hHl.1 hHl.2 (fun b hb => by have := hb.1; have := he.size; omega) ((hrr.keep (fun b hb => (hX5.trans he).block b hb) (fun b hb => ⟨by have := hX'.size; have : b < w.heap.size := hb; omega, fun q => by have := (hZ b q).1; have : b < w.heap.size := hb; omega, fun q => by have : b < w.heap.size := hb; omega⟩))) hci hbl (fun d hd => hp2 _ (List.getElem_mem hlt) d hd) (hist_ok hH')
              rw [← hH1, ← hrn, ← hec] at this
              exact this
            refine op rfl (r_moveV (v := .tuple #[.int .i64 rn, .int .i64 ec]) rfl) ?_
            refine op rfl (r_extract (vs := [.int .i64 rn, .int .i64 ec]) rfl rfl) ?_
            refine op rfl (r_extract (vs := [.int .i64 rn, .int .i64 ec]) rfl rfl) ?_
            refine op rfl (r_assignV (v := .int .i64 rn) rfl) ?_
            refine op rfl (r_assignV (v := .int .i64 ec) rfl) ?_
            refine WL_nil ?_
            refine W_seq ?_
            refine W_drawF (W0 := w) (fun b : Nat => b = b4_5 ∨ False) Tryd.wd rfl ?_
            intro wd13 hD
            replace B4_5 := Blk.ext B4_5 hD
            replace hX := hX.trans hD
            have DB4_5 := B4_5
            have hS : Ext w wd13 ∧ Same (fun b : Nat => b = b4_5 ∨ False) wd13 wd13 := ⟨hX, fun _ _ => rfl⟩
            refine A_take (i := 0) rfl (by kernel_rfl) (by kernel_rfl) (by kernel_rfl) rfl hS (fun _ hw => r_loadRow rfl (Blk.at DB4_5 (hw.2 _ (Or.inl rfl))) Tryd.underlying52 rfl Tryd.sz52) ?_
            refine A_take (i := 1) rfl (by kernel_rfl) (by kernel_rfl) (by kernel_rfl) rfl hS (fun _ hw => r_moveV (v := .slice _ _ _) rfl) ?_
            refine A_take (i := 2) rfl (by kernel_rfl) (by kernel_rfl) (by kernel_rfl) rfl hS (fun _ hw => r_moveV (v := .int _ _) rfl) ?_
            refine A_take (i := 3) rfl (by kernel_rfl) (by kernel_rfl) (by kernel_rfl) rfl hS (fun _ hw => r_indexAddr1 rfl rfl hA Tryd.underlying24 Tryd.sz33 (by omega) (by omega)) ?_
            refine A_take (i := 4) rfl (by kernel_rfl) (by kernel_rfl) (by kernel_rfl) rfl hS (fun _ hw => r_load (v := .slice Ai l[i].length ci) rfl Tryd.underlying33 rfl (ext_cell hw.1 hcell)) ?_
            refine A_ready2 (i := 5) (j := 10) (by kernel_rfl) ?_ ?_
            · have hsD13 := hD.size
              first
                | have lb13 := Blk.lt B13_10
                | skip
              refine O_call rfl rfl (r_call Tryd.func24 Tryd.nm24 rfl) (hRc _ (by first | exact hD | exact hD.trans E13_10)) ?_
              rintro v6 w6 ⟨v7, rfl, hR6', hE⟩
              replace B4_5 := Blk.ext B4_5 hE
              replace hX := hX.trans hE
              replace hS : Ext w w6 ∧ Same (fun b : Nat => b = b4_5 ∨ False) wd13 w6 := ⟨hX, fun b hb => Or.elim hb (fun q => by subst q; exact Blk.eq B4_5 DB4_5) (fun hb => hb.elim)⟩
              refine ⟨hS, ?_⟩
              have hR7 := hR6'
              obtain ⟨AT1, cT1, AM1, cM1, rfl, -⟩ := hR6'
              have hE56 : Ext w5 w6 := by first | exact hD.trans hE | exact (hD.trans E13_10).trans hE
              refine A_take (i := 6) rfl (by kernel_rfl) (by kernel_rfl) (by kernel_rfl) rfl hS (fun _ hw => r_moveV (v := .tuple #[.agg #[.slice AT1 H1.length cT1, .slice AM1 H1.length cM1], .int .i64 rn, .int .i64 ec]) rfl) ?_
              refine A_take (i := 7) rfl (by kernel_rfl) (by kernel_rfl) (by kernel_rfl) rfl hS (fun _ hw => r_extract (vs := [.agg #[.slice AT1 H1.length cT1, .slice AM1 H1.length cM1], .int .i64 rn, .int .i64 ec]) rfl rfl) ?_
              refine A_take (i := 8) rfl (by kernel_rfl) (by kernel_rfl) (by kernel_rfl) rfl hS (fun _ hw => r_extract (vs := [.agg #[.slice AT1 H1.length cT1, .slice AM1 H1.length cM1], .int .i64 rn, .int .i64 ec]) rfl rfl) ?_
              refine A_take (i := 9) rfl (by kernel_rfl) (by kernel_rfl) (by kernel_rfl) rfl hS (fun _ hw => r_extract (vs := [.agg #[.slice AT1 H1.length cT1, .slice AM1 H1.length cM1], .int .i64 rn, .int .i64 ec]) rfl rfl) ?_
              refine A_ready1 (i := 10) (by kernel_rfl) ?_
              refine O_new rfl rfl (r_alloc Tryd.zero52) ?_
              intro w13_10 b13_10 E13_10 B13_10 L13_10
              have hG13_10 : w.heap.size ≤ b13_10 := by have := hX.size; omega
              have hNb4_5_13_10 : b4_5 ≠ b13_10 := by have := Blk.lt B4_5; omega
              replace B4_5 := Blk.ext B4_5 E13_10
              replace hX := hX.trans E13_10
              replace hS : Ext w w13_10 ∧ Same (fun b : Nat => b = b4_5 ∨ False) wd13 w13_10 := ⟨hX, fun b hb => Or.elim hb (fun q => by subst q; exact Blk.eq B4_5 DB4_5) (fun hb => hb.elim)⟩
              refine ⟨hS, ?_⟩
              refine A_ready1 (i := 11) (by kernel_rfl) ?_
              refine O_storeRow rfl rfl rfl Tryd.sz52 B13_10 rfl rfl ?_
              intro w13_11 C13_11 BB13_11
              replace B4_5 := Chg.blk C13_11 B4_5 hNb4_5_13_10
              replace hX := hX.chg C13_11 hG13_10
              replace B13_10 := BB13_11
              replace hS : Ext w w13_11 ∧ Same (fun b : Nat => b = b4_5 ∨ False) wd13 w13_11 := ⟨hX, fun b hb => Or.elim hb (fun q => by subst q; exact Blk.eq B4_5 DB4_5) (fun hb => hb.elim)⟩
              refine ⟨hS, ?_⟩
              refine A_take (i := 12) rfl (by kernel_rfl) (by kernel_rfl) (by kernel_rfl) rfl hS (fun _ hw => r_assignV (v := .int .i64 rn) rfl) ?_
              refine A_take (i := 13) rfl (by kernel_rfl) (by kernel_rfl) (by kernel_rfl) rfl hS (fun _ hw => r_assignV (v := .int .i64 ec) rfl) ?_
              refine A_done (by kernel_rfl) ?_
              refine W_seq ?_
              refine W_region ?_
              refine op rfl (r_loadRow rfl B13_10 Tryd.underlying52 rfl Tryd.sz52) ?_
              refine op_storeRow rfl rfl Tryd.sz52 B4_5 rfl rfl ?_
              intro w14_1 C14_1 BB14_1
              replace B13_10 := Chg.blk C14_1 B13_10 (fun q => hNb4_5_13_10 q.symm)
              replace hX := hX.chg C14_1 hG4_5
              replace B4_5 := BB14_1
              refine WL_nil ?_
              refine W_seq ?_
              refine W_drawF (W0 := w) (fun b : Nat => b = b4_5 ∨ b = b13_10 ∨ False) Tryd.wd rfl ?_
              intro wd15 hD
              replace B4_5 := Blk.ext B4_5 hD
              replace B13_10 := Blk.ext B13_10 hD
              replace hX := hX.trans hD
              have DB4_5 := B4_5
              have DB13_10 := B13_10
              have hS : Ext w wd15 ∧ Same (fun b : Nat => b = b4_5 ∨ b = b13_10 ∨ False) wd15 wd15 := ⟨hX, fun _ _ => rfl⟩
              refine A_take (i := 0) rfl (by kernel_rfl) (by kernel_rfl) (by kernel_rfl) rfl hS (fun _ hw => r_moveV (v := .int .i64 rn) rfl) ?_
              refine A_take (i := 1) rfl (by kernel_rfl) (by kernel_rfl) (by kernel_rfl) rfl hS (fun _ hw => r_moveV (v := .int .i64 rn) rfl) ?_
              refine A_take (i := 2) rfl (by kernel_rfl) (by kernel_rfl) (by kernel_rfl) rfl hS (fun _ hw => r_neq rfl rfl) ?_
              refine A_false (i := 3) rfl (by kernel_rfl) (by kernel_rfl) (by kernel_rfl) rfl hS (fun _ _ => r_moveV (v := .bool (decide _)) rfl) (fun h => h rfl) ?_
              refine A_takeG (i := 4) rfl (by kernel_rfl) (by kernel_rfl) (by kernel_rfl) rfl hS rfl rfl rfl rfl (fun _ hw => r_moveV (v := .int .i64 ec) rfl) ?_
              refine A_takeG (i := 5) rfl (by kernel_rfl) (by kernel_rfl) (by kernel_rfl) rfl hS rfl rfl rfl rfl (fun _ hw => r_moveV (v := .int .i64 ec) rfl) ?_
              refine A_takeG (i := 6) rfl (by kernel_rfl) (by kernel_rfl) (by kernel_rfl) rfl hS rfl rfl rfl rfl (fun _ hw => r_neq rfl rfl) ?_
              refine A_take (i := 7) rfl (by kernel_rfl) (by kernel_rfl) (by kernel_rfl) rfl hS (fun _ hw => r_pickFV (v := .bool _) rfl rfl) ?_
              refine A_false (i := 8) rfl (by kernel_rfl) (by kernel_rfl) (by kernel_rfl) rfl hS (fun _ _ => r_moveV (v := .bool (decide _)) rfl) (fun h => h rfl) ?_
              refine A_takeG (i := 9) rfl (by kernel_rfl) (by kernel_rfl) (by kernel_rfl) rfl hS rfl rfl rfl rfl (fun _ hw => r_moveV (v := hp p) (by rw [← hpv]; rfl)) ?_
              refine A_takeG (i := 11) rfl (by kernel_rfl) (by kernel_rfl) (by kernel_rfl) rfl hS rfl rfl rfl rfl (fun _ hw => r_loadRow rfl (Blk.at DB4_5 (hw.2 _ (Or.inl rfl))) Tryd.underlying52 rfl Tryd.sz52) ?_
              refine A_ready1 (i := 10) (by kernel_rfl) ?_
              have hs56 := hE56.size
              have hb13 : w5.heap.size ≤ b13_10 := by omega
              have z1 := C13_11.size
              have z2 := C14_1.size
              have hk : ∀ b, b < w6.heap.size → b ≠ b4_5 → b ≠ b13_10 → wd15.heap[b]? = w6.heap[b]? := fun b h1 h2 h3 => by
                first
                  | (have z0 := E13_10.size; rw [hD.block b (by omega), C14_1.block b (by omega) h2, C13_11.block b (by omega) h3, E13_10.block b h1])
                  | (rw [hD.block b (by omega), C14_1.block b (by omega) h2, C13_11.block b (by omega) h3])
              have hs615 : w6.heap.size ≤ wd15.heap.size := by
                have := hD.size
                first
                  | (have z0 : w6.heap.size ≤ w13_10.heap.size := E13_10.size; omega)
                  | omega
              have hH15 : Hist p (fun b => (Z b ∨ since w0i w5 b) ∧ b < w5.heap.size) wd15 H1 := hH5.lt.keep (fun b hb => (hk b (by have := hb.2; omega) (fun q => by
                rcases hb.1 with k | k
                · exact (hZ b k).2.2 q
                · have := k.1; omega) (by have := hb.2; omega)).trans (hE56.block b hb.2))
              have hR15 : RefH (fun b => b < wd15.heap.size ∧ ¬ (Z b ∨ since w0i w5 b) ∧ b ≠ b4_5) wd15 (.agg #[.slice AT1 H1.length cT1, .slice AM1 H1.length cM1]) H1 := hR7.keep (fun b hb => by
                rcases hb with q | q
                · exact hk b (by have := q.1; omega) q.2.2 (by have := q.1; omega)
                · exact hk b q.2 (by have := q.1; omega) (by have := q.1; have := q.2; omega)) (fun b hb => by
                rcases hb with q | q
                · exact ⟨by have := q.1; omega, fun k => k.elim q.2.1 (fun k => by have := k.1; have := q.1; omega), q.2.2⟩
                · have := q.1; have := q.2
                  exact ⟨by omega, fun k => k.elim (fun k => by have := (hZ b k).2.1; omega) (fun k => by have := k.2; omega), by omega⟩)
              refine O_callG rfl rfl rfl rfl rfl rfl (r_call Tryd.func15 Tryd.nm15 rfl) (head_spec hH15) ?_
              rintro v8 w8 ⟨rfl, hE⟩
              replace B4_5 := Blk.ext B4_5 hE
              replace B13_10 := Blk.ext B13_10 hE
              replace hX := hX.trans hE
              replace hS : Ext w w8 ∧ Same (fun b : Nat => b = b4_5 ∨ b = b13_10 ∨ False) wd15 w8 := ⟨hX, fun b hb => Or.elim hb (fun q => by subst q; exact Blk.eq B4_5 DB4_5) (fun hb => Or.elim hb (fun q => by subst q; exact Blk.eq B13_10 DB13_10) (fun hb => hb.elim))⟩
              refine ⟨hS, ?_⟩
              have hE8 := hE
              refine A_ready1 (i := 12) (by kernel_rfl) ?_
              refine O_callG rfl rfl rfl rfl rfl rfl (r_call Tryd.func20 Tryd.nm20 rfl) (refHead_spec _ (by have := (hist_len hH5).2; omega) _ rfl) ?_
              rintro v9 w9 ⟨rfl, hE⟩
              replace B4_5 := Blk.ext B4_5 hE
              replace B13_10 := Blk.ext B13_10 hE
              replace hX := hX.trans hE
              replace hS : Ext w w9 ∧ Same (fun b : Nat => b = b4_5 ∨ b = b13_10 ∨ False) wd15 w9 := ⟨hX, fun b hb => Or.elim hb (fun q => by subst q; exact Blk.eq B4_5 DB4_5) (fun hb => Or.elim hb (fun q => by subst q; exact Blk.eq B13_10 DB13_10) (fun hb => hb.elim))⟩
              refine ⟨hS, ?_⟩
              have hE9 := hE8.trans hE
              refine A_takeG (i := 13) rfl (by kernel_rfl) (by kernel_rfl) (by kernel_rfl) rfl hS rfl rfl rfl rfl (fun _ hw => r_neq rfl rfl) ?_
              refine A_take (i := 14) rfl (by kernel_rfl) (by kernel_rfl) (by kernel_rfl) rfl hS (fun _ hw => r_pickFV (v := .bool _) rfl rfl) ?_
              refine A_false (i := 15) rfl (by kernel_rfl) (by kernel_rfl) (by kernel_rfl) rfl hS (fun _ _ => r_moveV (v := .bool (decide _)) rfl) (fun h => h rfl) ?_
              refine A_takeG (i := 16) rfl (by kernel_rfl) (by kernel_rfl) (by kernel_rfl) rfl hS rfl rfl rfl rfl (fun _ hw => r_moveV (v := hp p) (by rw [← hpv]; rfl)) ?_
              refine A_takeG (i := 17) rfl (by kernel_rfl) (by kernel_rfl) (by kernel_rfl) rfl hS rfl rfl rfl rfl (fun _ hw => r_moveV (v := .int _ _) rfl) ?_
              refine A_takeG (i := 18) rfl (by kernel_rfl) (by kernel_rfl) (by kernel_rfl) rfl hS rfl rfl rfl rfl (fun _ hw => r_moveV (v := .slice _ _ _) rfl) ?_
              refine A_takeG (i := 20) rfl (by kernel_rfl) (by kernel_rfl) (by kernel_rfl) rfl hS rfl rfl rfl rfl (fun _ hw => r_loadRow rfl (Blk.at DB4_5 (hw.2 _ (Or.inl rfl))) Tryd.underlying52 rfl Tryd.sz52) ?_
              refine A_takeG (i := 21) rfl (by kernel_rfl) (by kernel_rfl) (by kernel_rfl) rfl hS rfl rfl rfl rfl (fun _ hw => r_moveV (v := .int _ _) rfl) ?_
              refine A_takeG (i := 22) rfl (by kernel_rfl) (by kernel_rfl) (by kernel_rfl) rfl hS rfl rfl rfl rfl (fun _ hw => r_moveV (v := .slice _ _ _) rfl) ?_
              refine A_ready1 (i := 19) (by kernel_rfl) ?_
              have hH16 := hH15.ext hE9
              refine O_callG rfl rfl rfl rfl rfl rfl (r_call Tryd.func14 Tryd.nm14 rfl) (since_spec (cs := cs) hH16 r (hrows.ext hX) hls) ?_
              rintro v10 w10 ⟨hO10, hE⟩
              replace B4_5 := Blk.ext B4_5 hE
              replace B13_10 := Blk.ext B13_10 hE
              replace hX := hX.trans hE
              replace hS : Ext w w10 ∧ Same (fun b : Nat => b = b4_5 ∨ b = b13_10 ∨ False) wd15 w10 := ⟨hX, fun b hb => Or.elim hb (fun q => by subst q; exact Blk.eq B4_5 DB4_5) (fun hb => Or.elim hb (fun q => by subst q; exact Blk.eq B13_10 DB13_10) (fun hb => hb.elim))⟩
              refine ⟨hS, ?_⟩
              have hE10 := hE9.trans hE
              have hE10' := hE
              refine A_ready1 (i := 23) (by kernel_rfl) ?_
              have hR16 := hR15.keep (fun b hb => hE10.block b hb.1) (fun _ h => h)
              have hG16 : ∀ b, (b < wd15.heap.size ∧ ¬ (Z b ∨ since w0i w5 b) ∧ b ≠ b4_5) → b < w10.heap.size := fun b hb => Nat.lt_of_lt_of_le hb.1 hE10.size
              refine O_callG rfl rfl rfl rfl rfl rfl (r_call Tryd.func26 Tryd.nm26 rfl) (refSince_spec (cs := cs) hR16 (hist_len hH5).1 (hist_len hH5).2 hG16 r (hrows.ext hX) hls) ?_
              rintro v11 w11 ⟨hO11, hE⟩
              replace B4_5 := Blk.ext B4_5 hE
              replace B13_10 := Blk.ext B13_10 hE
              replace hX := hX.trans hE
              replace hS : Ext w w11 ∧ Same (fun b : Nat => b = b4_5 ∨ b = b13_10 ∨ False) wd15 w11 := ⟨hX, fun b hb => Or.elim hb (fun q => by subst q; exact Blk.eq B4_5 DB4_5) (fun hb => Or.elim hb (fun q => by subst q; exact Blk.eq B13_10 DB13_10) (fun hb => hb.elim))⟩
              refine ⟨hS, ?_⟩
              obtain ⟨A12, c12, rfl, -, hr12⟩ := own_frow hO10
              obtain ⟨A13, c13, rfl, -, hr13⟩ := own_frow hO11
              have hE11 := hE
              have hsl : (sinceR H1 r ss).length ≤ ss.length := List.length_filter_le _ _
              refine A_ready1 (i := 24) (by kernel_rfl) ?_
              refine O_callG rfl rfl rfl rfl rfl rfl (r_call Tryd.func25 Tryd.nm25 rfl) (sameTexts_spec (hr12.ext hE11) hr13 (by omega)) ?_
              rintro v12 w12 ⟨rfl, hE⟩
              replace B4_5 := Blk.ext B4_5 hE
              replace B13_10 := Blk.ext B13_10 hE
              replace hX := hX.trans hE
              replace hS : Ext w w12 ∧ Same (fun b : Nat => b = b4_5 ∨ b = b13_10 ∨ False) wd15 w12 := ⟨hX, fun b hb => Or.elim hb (fun q => by subst q; exact Blk.eq B4_5 DB4_5) (fun hb => Or.elim hb (fun q => by subst q; exact Blk.eq B13_10 DB13_10) (fun hb => hb.elim))⟩
              refine ⟨hS, ?_⟩
              have hEe := (hE10.trans hE11).trans hE
              refine A_takeG (i := 25) rfl (by kernel_rfl) (by kernel_rfl) (by kernel_rfl) rfl hS rfl rfl rfl rfl (fun _ hw => r_notP rfl) ?_
              refine A_take (i := 26) rfl (by kernel_rfl) (by kernel_rfl) (by kernel_rfl) rfl hS (fun _ hw => r_pickFV (v := .bool _) rfl rfl) ?_
              refine A_done (by kernel_rfl) ?_
              refine W_ifp rfl (fun ht115 => ?_) (fun ht115 => ?_)
              · exact absurd rfl ht115
              · refine W_skip ?_
                refine W_region ?_
                refine op rfl (r_moveV (v := .int _ _) rfl) ?_
                refine op rfl (r_add' (r := ((i + 1 : Nat) : Int)) rfl rfl (by rw [wrap_i64 (by omega) (by omega)]; omega)) ?_
                refine op rfl (r_assignV (v := .int _ _) rfl) ?_
                refine WL_nil ?_
                refine ⟨?_, by repeat (first | with_reducible exact Out.refl _ _ | with_reducible exact Out.mix | refine Out.put rfl ?_ | refine Out.mixin rfl ?_ | exact Out.refl _ _ | exact Out.mix)⟩
                refine ⟨l.length - (i + 1), by omega, i + 1, H1, fun b => (Z b ∨ since w0i w5 b) ∧ b < w5.heap.size, AT1, cT1, AM1, cM1, by omega, by omega, rfl, hH15.ext hEe, hR15.keep (fun b hb => hEe.block b hb.1) (fun b hb => ⟨Nat.lt_of_lt_of_le hb.1 hEe.size, fun q => hb.2.1 q.1, hb.2.2⟩), B4_5, fun b hb => ?_, hX⟩
                have := hEe.size
                rcases hb.1 with q | q
                · obtain ⟨q1, q2, q3⟩ := hZ b q
                  exact ⟨q1, by have := hb.2; omega, q3⟩
                · have := q.1; have := hX'.size; exact ⟨by omega, by have := hb.2; omega, by omega⟩
            · refine O_new rfl rfl (r_alloc Tryd.zero52) ?_
              intro w13_10 b13_10 E13_10 B13_10 L13_10
              have hG13_10 : w.heap.size ≤ b13_10 := by have := hX.size; omega
              have hNb4_5_13_10 : b4_5 ≠ b13_10 := by have := Blk.lt B4_5; omega
              replace B4_5 := Blk.ext B4_5 E13_10
              replace hX := hX.trans E13_10
              replace hS : Ext w w13_10 ∧ Same (fun b : Nat => b = b4_5 ∨ False) wd13 w13_10 := ⟨hX, fun b hb => Or.elim hb (fun q => by subst q; exact Blk.eq B4_5 DB4_5) (fun hb => hb.elim)⟩
              refine ⟨hS, ?_⟩
              refine A_ready1 (i := 5) (by kernel_rfl) ?_
              have hsD13 := hD.size
              first
                | have lb13 := Blk.lt B13_10
                | skip
              refine O_call rfl rfl (r_call Tryd.func24 Tryd.nm24 rfl) (hRc _ (by first | exact hD | exact hD.trans E13_10)) ?_
              rintro v6 w6 ⟨v7, rfl, hR6', hE⟩
              replace B4_5 := Blk.ext B4_5 hE
              replace B13_10 := Blk.ext B13_10 hE
              replace hX := hX.trans hE
              replace hS : Ext w w6 ∧ Same (fun b : Nat => b = b4_5 ∨ False) wd13 w6 := ⟨hX, fun b hb => Or.elim hb (fun q => by subst q; exact Blk.eq B4_5 DB4_5) (fun hb => hb.elim)⟩
              refine ⟨hS, ?_⟩
              have hR7 := hR6'
              obtain ⟨AT1, cT1, AM1, cM1, rfl, -⟩ := hR6'
              have hE56 : Ext w5 w6 := by first | exact hD.trans hE | exact (hD.trans E13_10).trans hE
              refine A_take (i := 6) rfl (by kernel_rfl) (by kernel_rfl) (by kernel_rfl) rfl hS (fun _ hw => r_moveV (v := .tuple #[.agg #[.slice AT1 H1.length cT1, .slice AM1 H1.length cM1], .int .i64 rn, .int .i64 ec]) rfl) ?_
              refine A_take (i := 7) rfl (by kernel_rfl) (by kernel_rfl) (by kernel_rfl) rfl hS (fun _ hw => r_extract (vs := [.agg #[.slice AT1 H1.length cT1, .slice AM1 H1.length cM1], .int .i64 rn, .int .i64 ec]) rfl rfl) ?_
              refine A_take (i := 8) rfl (by kernel_rfl) (by kernel_rfl) (by kernel_rfl) rfl hS (fun _ hw => r_extract (vs := [.agg #[.slice AT1 H1.length cT1, .slice AM1 H1.length cM1], .int .i64 rn, .int .i64 ec]) rfl rfl) ?_
              refine A_take (i := 9) rfl (by kernel_rfl) (by kernel_rfl) (by kernel_rfl) rfl hS (fun _ hw => r_extract (vs := [.agg #[.slice AT1 H1.length cT1, .slice AM1 H1.length cM1], .int .i64 rn, .int .i64 ec]) rfl rfl) ?_
              refine A_ready1 (i := 11) (by kernel_rfl) ?_
              refine O_storeRow rfl rfl rfl Tryd.sz52 B13_10 rfl rfl ?_
              intro w13_11 C13_11 BB13_11
              replace B4_5 := Chg.blk C13_11 B4_5 hNb4_5_13_10
              replace hX := hX.chg C13_11 hG13_10
              replace B13_10 := BB13_11
              replace hS : Ext w w13_11 ∧ Same (fun b : Nat => b = b4_5 ∨ False) wd13 w13_11 := ⟨hX, fun b hb => Or.elim hb (fun q => by subst q; exact Blk.eq B4_5 DB4_5) (fun hb => hb.elim)⟩
              refine ⟨hS, ?_⟩
              refine A_take (i := 12) rfl (by kernel_rfl) (by kernel_rfl) (by kernel_rfl) rfl hS (fun _ hw => r_assignV (v := .int .i64 rn) rfl) ?_
              refine A_take (i := 13) rfl (by kernel_rfl) (by kernel_rfl) (by kernel_rfl) rfl hS (fun _ hw => r_assignV (v := .int .i64 ec) rfl) ?_
              refine A_done (by kernel_rfl) ?_
              refine W_seq ?_
              refine W_region ?_
              refine op rfl (r_loadRow rfl B13_10 Tryd.underlying52 rfl Tryd.sz52) ?_
              refine op_storeRow rfl rfl Tryd.sz52 B4_5 rfl rfl ?_
              intro w14_1 C14_1 BB14_1
              replace B13_10 := Chg.blk C14_1 B13_10 (fun q => hNb4_5_13_10 q.symm)
              replace hX := hX.chg C14_1 hG4_5
              replace B4_5 := BB14_1
              refine WL_nil ?_
              refine W_seq ?_
              refine W_drawF (W0 := w) (fun b : Nat => b = b4_5 ∨ b = b13_10 ∨ False) Tryd.wd rfl ?_
              intro wd15 hD
              replace B4_5 := Blk.ext B4_5 hD
              replace B13_10 := Blk.ext B13_10 hD
              replace hX := hX.trans hD
              have DB4_5 := B4_5
              have DB13_10 := B13_10
              have hS : Ext w wd15 ∧ Same (fun b : Nat => b = b4_5 ∨ b = b13_10 ∨ False) wd15 wd15 := ⟨hX, fun _ _ => rfl⟩
              refine A_take (i := 0) rfl (by kernel_rfl) (by kernel_rfl) (by kernel_rfl) rfl hS (fun _ hw => r_moveV (v := .int .i64 rn) rfl) ?_
              refine A_take (i := 1) rfl (by kernel_rfl) (by kernel_rfl) (by kernel_rfl) rfl hS (fun _ hw => r_moveV (v := .int .i64 rn) rfl) ?_
              refine A_take (i := 2) rfl (by kernel_rfl) (by kernel_rfl) (by kernel_rfl) rfl hS (fun _ hw => r_neq rfl rfl) ?_
              refine A_false (i := 3) rfl (by kernel_rfl) (by kernel_rfl) (by kernel_rfl) rfl hS (fun _ _ => r_moveV (v := .bool (decide _)) rfl) (fun h => h rfl) ?_
              refine A_takeG (i := 4) rfl (by kernel_rfl) (by kernel_rfl) (by kernel_rfl) rfl hS rfl rfl rfl rfl (fun _ hw => r_moveV (v := .int .i64 ec) rfl) ?_
              refine A_takeG (i := 5) rfl (by kernel_rfl) (by kernel_rfl) (by kernel_rfl) rfl hS rfl rfl rfl rfl (fun _ hw => r_moveV (v := .int .i64 ec) rfl) ?_
              refine A_takeG (i := 6) rfl (by kernel_rfl) (by kernel_rfl) (by kernel_rfl) rfl hS rfl rfl rfl rfl (fun _ hw => r_neq rfl rfl) ?_
              refine A_take (i := 7) rfl (by kernel_rfl) (by kernel_rfl) (by kernel_rfl) rfl hS (fun _ hw => r_pickFV (v := .bool _) rfl rfl) ?_
              refine A_false (i := 8) rfl (by kernel_rfl) (by kernel_rfl) (by kernel_rfl) rfl hS (fun _ _ => r_moveV (v := .bool (decide _)) rfl) (fun h => h rfl) ?_
              refine A_takeG (i := 9) rfl (by kernel_rfl) (by kernel_rfl) (by kernel_rfl) rfl hS rfl rfl rfl rfl (fun _ hw => r_moveV (v := hp p) (by rw [← hpv]; rfl)) ?_
              refine A_takeG (i := 11) rfl (by kernel_rfl) (by kernel_rfl) (by kernel_rfl) rfl hS rfl rfl rfl rfl (fun _ hw => r_loadRow rfl (Blk.at DB4_5 (hw.2 _ (Or.inl rfl))) Tryd.underlying52 rfl Tryd.sz52) ?_
              refine A_ready1 (i := 10) (by kernel_rfl) ?_
              have hs56 := hE56.size
              have hb13 : w5.heap.size ≤ b13_10 := by omega
              have z1 := C13_11.size
              have z2 := C14_1.size
              have hk : ∀ b, b < w6.heap.size → b ≠ b4_5 → b ≠ b13_10 → wd15.heap[b]? = w6.heap[b]? := fun b h1 h2 h3 => by
                first
                  | (have z0 := E13_10.size; rw [hD.block b (by omega), C14_1.block b (by omega) h2, C13_11.block b (by omega) h3, E13_10.block b h1])
                  | (rw [hD.block b (by omega), C14_1.block b (by omega) h2, C13_11.block b (by omega) h3])
              have hs615 : w6.heap.size ≤ wd15.heap.size := by
                have := hD.size
                first
                  | (have z0 : w6.heap.size ≤ w13_10.heap.size := E13_10.size; omega)
                  | omega
              have hH15 : Hist p (fun b => (Z b ∨ since w0i w5 b) ∧ b < w5.heap.size) wd15 H1 := hH5.lt.keep (fun b hb => (hk b (by have := hb.2; omega) (fun q => by
                rcases hb.1 with k | k
                · exact (hZ b k).2.2 q
                · have := k.1; omega) (by have := hb.2; omega)).trans (hE56.block b hb.2))
              have hR15 : RefH (fun b => b < wd15.heap.size ∧ ¬ (Z b ∨ since w0i w5 b) ∧ b ≠ b4_5) wd15 (.agg #[.slice AT1 H1.length cT1, .slice AM1 H1.length cM1]) H1 := hR7.keep (fun b hb => by
                rcases hb with q | q
                · exact hk b (by have := q.1; omega) q.2.2 (by have := q.1; omega)
                · exact hk b q.2 (by have := q.1; omega) (by have := q.1; have := q.2; omega)) (fun b hb => by
                rcases hb with q | q
                · exact ⟨by have := q.1; omega, fun k => k.elim q.2.1 (fun k => by have := k.1; have := q.1; omega), q.2.2⟩
                · have := q.1; have := q.2
                  exact ⟨by omega, fun k => k.elim (fun k => by have := (hZ b k).2.1; omega) (fun k => by have := k.2; omega), by omega⟩)
              refine O_callG rfl rfl rfl rfl rfl rfl (r_call Tryd.func15 Tryd.nm15 rfl) (head_spec hH15) ?_
              rintro v8 w8 ⟨rfl, hE⟩
              replace B4_5 := Blk.ext B4_5 hE
              replace B13_10 := Blk.ext B13_10 hE
              replace hX := hX.trans hE
              replace hS : Ext w w8 ∧ Same (fun b : Nat => b = b4_5 ∨ b = b13_10 ∨ False) wd15 w8 := ⟨hX, fun b hb => Or.elim hb (fun q => by subst q; exact Blk.eq B4_5 DB4_5) (fun hb => Or.elim hb (fun q => by subst q; exact Blk.eq B13_10 DB13_10) (fun hb => hb.elim))⟩
              refine ⟨hS, ?_⟩
              have hE8 := hE
              refine A_ready1 (i := 12) (by kernel_rfl) ?_
              refine O_callG rfl rfl rfl rfl rfl rfl (r_call Tryd.func20 Tryd.nm20 rfl) (refHead_spec _ (by have := (hist_len hH5).2; omega) _ rfl) ?_
              rintro v9 w9 ⟨rfl, hE⟩
              replace B4_5 := Blk.ext B4_5 hE
              replace B13_10 := Blk.ext B13_10 hE
              replace hX := hX.trans hE
              replace hS : Ext w w9 ∧ Same (fun b : Nat => b = b4_5 ∨ b = b13_10 ∨ False) wd15 w9 := ⟨hX, fun b hb => Or.elim hb (fun q => by subst q; exact Blk.eq B4_5 DB4_5) (fun hb => Or.elim hb (fun q => by subst q; exact Blk.eq B13_10 DB13_10) (fun hb => hb.elim))⟩
              refine ⟨hS, ?_⟩
              have hE9 := hE8.trans hE
              refine A_takeG (i := 13) rfl (by kernel_rfl) (by kernel_rfl) (by kernel_rfl) rfl hS rfl rfl rfl rfl (fun _ hw => r_neq rfl rfl) ?_
              refine A_take (i := 14) rfl (by kernel_rfl) (by kernel_rfl) (by kernel_rfl) rfl hS (fun _ hw => r_pickFV (v := .bool _) rfl rfl) ?_
              refine A_false (i := 15) rfl (by kernel_rfl) (by kernel_rfl) (by kernel_rfl) rfl hS (fun _ _ => r_moveV (v := .bool (decide _)) rfl) (fun h => h rfl) ?_
              refine A_takeG (i := 16) rfl (by kernel_rfl) (by kernel_rfl) (by kernel_rfl) rfl hS rfl rfl rfl rfl (fun _ hw => r_moveV (v := hp p) (by rw [← hpv]; rfl)) ?_
              refine A_takeG (i := 17) rfl (by kernel_rfl) (by kernel_rfl) (by kernel_rfl) rfl hS rfl rfl rfl rfl (fun _ hw => r_moveV (v := .int _ _) rfl) ?_
              refine A_takeG (i := 18) rfl (by kernel_rfl) (by kernel_rfl) (by kernel_rfl) rfl hS rfl rfl rfl rfl (fun _ hw => r_moveV (v := .slice _ _ _) rfl) ?_
              refine A_takeG (i := 20) rfl (by kernel_rfl) (by kernel_rfl) (by kernel_rfl) rfl hS rfl rfl rfl rfl (fun _ hw => r_loadRow rfl (Blk.at DB4_5 (hw.2 _ (Or.inl rfl))) Tryd.underlying52 rfl Tryd.sz52) ?_
              refine A_takeG (i := 21) rfl (by kernel_rfl) (by kernel_rfl) (by kernel_rfl) rfl hS rfl rfl rfl rfl (fun _ hw => r_moveV (v := .int _ _) rfl) ?_
              refine A_takeG (i := 22) rfl (by kernel_rfl) (by kernel_rfl) (by kernel_rfl) rfl hS rfl rfl rfl rfl (fun _ hw => r_moveV (v := .slice _ _ _) rfl) ?_
              refine A_ready1 (i := 19) (by kernel_rfl) ?_
              have hH16 := hH15.ext hE9
              refine O_callG rfl rfl rfl rfl rfl rfl (r_call Tryd.func14 Tryd.nm14 rfl) (since_spec (cs := cs) hH16 r (hrows.ext hX) hls) ?_
              rintro v10 w10 ⟨hO10, hE⟩
              replace B4_5 := Blk.ext B4_5 hE
              replace B13_10 := Blk.ext B13_10 hE
              replace hX := hX.trans hE
              replace hS : Ext w w10 ∧ Same (fun b : Nat => b = b4_5 ∨ b = b13_10 ∨ False) wd15 w10 := ⟨hX, fun b hb => Or.elim hb (fun q => by subst q; exact Blk.eq B4_5 DB4_5) (fun hb => Or.elim hb (fun q => by subst q; exact Blk.eq B13_10 DB13_10) (fun hb => hb.elim))⟩
              refine ⟨hS, ?_⟩
              have hE10 := hE9.trans hE
              have hE10' := hE
              refine A_ready1 (i := 23) (by kernel_rfl) ?_
              have hR16 := hR15.keep (fun b hb => hE10.block b hb.1) (fun _ h => h)
              have hG16 : ∀ b, (b < wd15.heap.size ∧ ¬ (Z b ∨ since w0i w5 b) ∧ b ≠ b4_5) → b < w10.heap.size := fun b hb => Nat.lt_of_lt_of_le hb.1 hE10.size
              refine O_callG rfl rfl rfl rfl rfl rfl (r_call Tryd.func26 Tryd.nm26 rfl) (refSince_spec (cs := cs) hR16 (hist_len hH5).1 (hist_len hH5).2 hG16 r (hrows.ext hX) hls) ?_
              rintro v11 w11 ⟨hO11, hE⟩
              replace B4_5 := Blk.ext B4_5 hE
              replace B13_10 := Blk.ext B13_10 hE
              replace hX := hX.trans hE
              replace hS : Ext w w11 ∧ Same (fun b : Nat => b = b4_5 ∨ b = b13_10 ∨ False) wd15 w11 := ⟨hX, fun b hb => Or.elim hb (fun q => by subst q; exact Blk.eq B4_5 DB4_5) (fun hb => Or.elim hb (fun q => by subst q; exact Blk.eq B13_10 DB13_10) (fun hb => hb.elim))⟩
              refine ⟨hS, ?_⟩
              obtain ⟨A12, c12, rfl, -, hr12⟩ := own_frow hO10
              obtain ⟨A13, c13, rfl, -, hr13⟩ := own_frow hO11
              have hE11 := hE
              have hsl : (sinceR H1 r ss).length ≤ ss.length := List.length_filter_le _ _
              refine A_ready1 (i := 24) (by kernel_rfl) ?_
              refine O_callG rfl rfl rfl rfl rfl rfl (r_call Tryd.func25 Tryd.nm25 rfl) (sameTexts_spec (hr12.ext hE11) hr13 (by omega)) ?_
              rintro v12 w12 ⟨rfl, hE⟩
              replace B4_5 := Blk.ext B4_5 hE
              replace B13_10 := Blk.ext B13_10 hE
              replace hX := hX.trans hE
              replace hS : Ext w w12 ∧ Same (fun b : Nat => b = b4_5 ∨ b = b13_10 ∨ False) wd15 w12 := ⟨hX, fun b hb => Or.elim hb (fun q => by subst q; exact Blk.eq B4_5 DB4_5) (fun hb => Or.elim hb (fun q => by subst q; exact Blk.eq B13_10 DB13_10) (fun hb => hb.elim))⟩
              refine ⟨hS, ?_⟩
              have hEe := (hE10.trans hE11).trans hE
              refine A_takeG (i := 25) rfl (by kernel_rfl) (by kernel_rfl) (by kernel_rfl) rfl hS rfl rfl rfl rfl (fun _ hw => r_notP rfl) ?_
              refine A_take (i := 26) rfl (by kernel_rfl) (by kernel_rfl) (by kernel_rfl) rfl hS (fun _ hw => r_pickFV (v := .bool _) rfl rfl) ?_
              refine A_done (by kernel_rfl) ?_
              refine W_ifp rfl (fun ht115 => ?_) (fun ht115 => ?_)
              · exact absurd rfl ht115
              · refine W_skip ?_
                refine W_region ?_
                refine op rfl (r_moveV (v := .int _ _) rfl) ?_
                refine op rfl (r_add' (r := ((i + 1 : Nat) : Int)) rfl rfl (by rw [wrap_i64 (by omega) (by omega)]; omega)) ?_
                refine op rfl (r_assignV (v := .int _ _) rfl) ?_
                refine WL_nil ?_
                refine ⟨?_, by repeat (first | with_reducible exact Out.refl _ _ | with_reducible exact Out.mix | refine Out.put rfl ?_ | refine Out.mixin rfl ?_ | exact Out.refl _ _ | exact Out.mix)⟩
                refine ⟨l.length - (i + 1), by omega, i + 1, H1, fun b => (Z b ∨ since w0i w5 b) ∧ b < w5.heap.size, AT1, cT1, AM1, cM1, by omega, by omega, rfl, hH15.ext hEe, hR15.keep (fun b hb => hEe.block b hb.1) (fun b hb => ⟨Nat.lt_of_lt_of_le hb.1 hEe.size, fun q => hb.2.1 q.1, hb.2.2⟩), B4_5, fun b hb => ?_, hX⟩
                have := hEe.size
                rcases hb.1 with q | q
                · obtain ⟨q1, q2, q3⟩ := hZ b q
                  exact ⟨q1, by have := hb.2; omega, q3⟩
                · have := q.1; have := hX'.size; exact ⟨by omega, by have := hb.2; omega, by omega⟩
          · obtain ⟨we, hwe⟩ : ∃ x, x = w0i := ⟨_, rfl⟩
            subst hwe
            have hok := hist_ok hH'
            have B4e := B4_5
            have hG : ∀ b, (b < we.heap.size ∧ ¬ Z b ∧ b ≠ b4_5) → b < we.heap.size := fun b hb => hb.1
            refine W_exit (blk_hit ?_)
            refine W_seq ?_
            refine W_seq ?_
            refine W_region ?_
            refine op rfl (r_assignV (v := .int _ _) rfl) ?_
            refine WL_nil ?_
            refine W_block ?_
            refine W_loop (8 :: 19 :: 20 :: 21 :: 22 :: 23 :: 24 :: 25 :: 26 :: 27 :: 116 :: 117 :: 118 :: 119 :: 120 :: 121 :: 122 :: 123 :: 124 :: 125 :: 126 :: 127 :: 128 :: 129 :: 130 :: 131 :: 132 :: 133 :: 134 :: 135 :: 136 :: 137 :: 138 :: 139 :: 140 :: 141 :: 142 :: 143 :: 144 :: 145 :: 146 :: 147 :: 148 :: 149 :: 150 :: 151 :: 152 :: 153 :: 154 :: 155 :: 156 :: 157 :: 158 :: 159 :: 160 :: 161 :: 162 :: 163 :: 164 :: 165 :: 166 :: []) (fun q e' w' => ∃ (k : Nat), q = H.length + 2 - k ∧ k ≤ H.length + 2 ∧ e' 19 = .int .i64 ((k : Int) - 1) ∧ Ext we w') (H.length + 2) ?_ ?_
            · exact ⟨0, by omega, by omega, rfl, Ext.refl _⟩
            intro k g w' hI
            obtain ⟨k, hqk, hkl, h19, hX''⟩ := hI
            clear hX
            have hX := hX''
            clear B4_5
            have B4_5 := Blk.ext B4e hX
            refine W_set (i := 19) h19 ?_
            refine W_seq ?_
            refine W_seq ?_
            refine W_region ?_
            refine op rfl (r_moveV (v := .int _ _) rfl) ?_
            refine op rfl (r_moveV (v := hp p) (by rw [← hpv]; rfl)) ?_
            refine opCv rfl (r_call Tryd.func15 Tryd.nm15 rfl) (head_spec (hH'.ext hX)) ?_
            rintro v20 w20 ⟨rfl, hE⟩
            replace B4_5 := Blk.ext B4_5 hE
            replace hX := hX.trans hE
            refine op rfl (r_add' (r := (H.length : Int)) rfl rfl (by rw [wrap_i64 (by omega) (by omega)]; omega)) ?_
            refine op rfl (r_leq rfl rfl) ?_
            refine WL_nil ?_
            refine W_ifp rfl (fun ht120 => ?_) (fun ht120 => ?_)
            · refine W_skip ?_
              refine W_seq ?_
              refine W_block ?_
              refine W_seq ?_
              refine W_region ?_
              refine op rfl (r_moveV (v := hp p) (by rw [← hpv]; rfl)) ?_
              refine op rfl (r_moveV (v := .int _ _) rfl) ?_
              refine opCv rfl (r_call Tryd.func16 Tryd.nm16 rfl) (histAt_spec (hH'.ext hX) ((k : Int) - 1)) ?_
              rintro v21 w21 ⟨v22, rfl, hO21, hE⟩
              replace B4_5 := Blk.ext B4_5 hE
              replace hX := hX.trans hE
              have hwk : we.heap.size ≤ w21.heap.size := hX.size
              obtain ⟨A21, c21, rfl, -, hr21⟩ := hO21.rd
              refine op rfl (r_moveV (v := .tuple #[.slice A21 (getR H ((k : Int) - 1)).t.length c21, .int .i64 (errR H ((k : Int) - 1))]) rfl) ?_
              refine op rfl (r_extract (vs := [.slice A21 (getR H ((k : Int) - 1)).t.length c21, .int .i64 (errR H ((k : Int) - 1))]) rfl rfl) ?_
              refine op rfl (r_extract (vs := [.slice A21 (getR H ((k : Int) - 1)).t.length c21, .int .i64 (errR H ((k : Int) - 1))]) rfl rfl) ?_
              refine op rfl (r_assignV (v := .slice A21 (getR H ((k : Int) - 1)).t.length c21) rfl) ?_
              refine op rfl (r_assignV (v := .int .i64 (errR H ((k : Int) - 1))) rfl) ?_
              refine WL_nil ?_
              refine W_seq ?_
              refine W_region ?_
              refine op rfl (r_loadRow rfl B4_5 Tryd.underlying52 rfl Tryd.sz52) ?_
              refine op rfl (r_moveV (v := .int _ _) rfl) ?_
              refine opCv rfl (r_call Tryd.func27 Tryd.nm27 rfl) (refAt_spec (hRf.keep (fun b hb ↦ hX.block b hb.1) (fun _ h ↦ h)) hHl.2 (fun b hb ↦ Nat.lt_of_lt_of_le hb.1 hX.size) ((k : Int) - 1)) ?_
              rintro v23 w23 ⟨A23, c23, rfl, -, hr23, hE⟩
              replace B4_5 := Blk.ext B4_5 hE
              replace hX := hX.trans hE
              have hE21 := hE
              refine op rfl (r_moveV (v := .tuple #[.slice A23 (getR H ((k : Int) - 1)).t.length c23, .int .i64 (errR H ((k : Int) - 1))]) rfl) ?_
              refine op rfl (r_extract (vs := [.slice A23 (getR H ((k : Int) - 1)).t.length c23, .int .i64 (errR H ((k : Int) - 1))]) rfl rfl) ?_
              refine op rfl (r_extract (vs := [.slice A23 (getR H ((k : Int) - 1)).t.length c23, .int .i64 (errR H ((k : Int) - 1))]) rfl rfl) ?_
              refine op rfl (r_assignV (v := .slice A23 (getR H ((k : Int) - 1)).t.length c23) rfl) ?_
              refine op rfl (r_assignV (v := .int .i64 (errR H ((k : Int) - 1))) rfl) ?_
              refine WL_nil ?_
              refine W_seq ?_
              refine W_region ?_
              refine op rfl (r_moveV (v := hp p) (by rw [← hpv]; rfl)) ?_
              refine op rfl (r_moveV (v := .int _ _) rfl) ?_
              refine opCv rfl (r_call Tryd.func19 Tryd.nm19 rfl) (histDeltas_spec (hH'.ext hX) ((k : Int) - 1)) ?_
              rintro v24 w24 ⟨v25, rfl, hO24, hE⟩
              replace B4_5 := Blk.ext B4_5 hE
              replace hX := hX.trans hE
              obtain ⟨A24, c24, rfl, -, hr24⟩ := hO24.rd
              have hE22 := hE
              refine op rfl (r_moveV (v := .tuple #[.slice A24 (getR H ((k : Int) - 1)).d.length c24, .int .i64 (errR H ((k : Int) - 1))]) rfl) ?_
              refine op rfl (r_extract (vs := [.slice A24 (getR H ((k : Int) - 1)).d.length c24, .int .i64 (errR H ((k : Int) - 1))]) rfl rfl) ?_
              refine op rfl (r_extract (vs := [.slice A24 (getR H ((k : Int) - 1)).d.length c24, .int .i64 (errR H ((k : Int) - 1))]) rfl rfl) ?_
              refine op rfl (r_assignV (v := .slice A24 (getR H ((k : Int) - 1)).d.length c24) rfl) ?_
              refine op rfl (r_assignV (v := .int .i64 (errR H ((k : Int) - 1))) rfl) ?_
              refine WL_nil ?_
              refine W_seq ?_
              refine W_region ?_
              refine op rfl (r_loadRow rfl B4_5 Tryd.underlying52 rfl Tryd.sz52) ?_
              refine op rfl (r_moveV (v := .int _ _) rfl) ?_
              refine opCv rfl (r_call Tryd.func28 Tryd.nm28 rfl) (refDeltas_spec (hRf.keep (fun b hb ↦ hX.block b hb.1) (fun _ h ↦ h)) hHl.2 (fun b hb ↦ Nat.lt_of_lt_of_le hb.1 hX.size) ((k : Int) - 1)) ?_
              rintro v26 w26 ⟨A26, c26, rfl, -, hr26, hE⟩
              replace B4_5 := Blk.ext B4_5 hE
              replace hX := hX.trans hE
              have hE23 := hE
              have hg0 := getR_ok hok ((k : Int) - 1)
              refine op rfl (r_moveV (v := .tuple #[.slice A26 (getR H ((k : Int) - 1)).d.length c26, .int .i64 (errR H ((k : Int) - 1))]) rfl) ?_
              refine op rfl (r_extract (vs := [.slice A26 (getR H ((k : Int) - 1)).d.length c26, .int .i64 (errR H ((k : Int) - 1))]) rfl rfl) ?_
              refine op rfl (r_extract (vs := [.slice A26 (getR H ((k : Int) - 1)).d.length c26, .int .i64 (errR H ((k : Int) - 1))]) rfl rfl) ?_
              refine op rfl (r_assignV (v := .slice A26 (getR H ((k : Int) - 1)).d.length c26) rfl) ?_
              refine op rfl (r_assignV (v := .int .i64 (errR H ((k : Int) - 1))) rfl) ?_
              refine WL_nil ?_
              refine W_seq ?_
              refine W_region ?_
              refine op rfl (r_moveV (v := .slice A21 (getR H ((k : Int) - 1)).t.length c21) rfl) ?_
              refine op rfl (r_moveV (v := .slice A23 (getR H ((k : Int) - 1)).t.length c23) rfl) ?_
              have hs21 := hE21.size
              have hs22 := hE22.size
              have hs23 := hE23.size
              have hra : fiT.Row w26 (old w26) A21 (getR H ((k : Int) - 1)).t := hr21.keep (fun b hb => ((hE21.trans hE22).trans hE23).block b hb.2) (fun b hb => by have := hb.2; show b < _; omega)
              have hrb : fiT.Row w26 (old w26) A23 (getR H ((k : Int) - 1)).t := hr23.keep (fun b hb => (hE22.trans hE23).block b (by have := hb.1; have := hwk; omega)) (fun b hb => by have := hb.1; have := hwk; show b < _; omega)
              refine opCv rfl (r_call Tryd.func18 Tryd.nm18 rfl) (same_spec hra hrb (by have := hg0.1; omega)) ?_
              rintro v27 w27 ⟨rfl, hE⟩
              replace B4_5 := Blk.ext B4_5 hE
              replace hX := hX.trans hE
              have hE27 := hE
              refine op rfl (r_notP rfl) ?_
              refine op_false rfl (r_moveV (v := .bool (decide _)) rfl) (fun h => h rfl) ?_
              refine opG_yes rfl rfl rfl rfl rfl (r_moveV (v := .int .i64 (errR H ((k : Int) - 1))) rfl) ?_
              refine opG_yes rfl rfl rfl rfl rfl (r_moveV (v := .int .i64 (errR H ((k : Int) - 1))) rfl) ?_
              refine opG_yes rfl rfl rfl rfl rfl (r_neq rfl rfl) ?_
              refine op rfl (r_pickFV (v := .bool _) rfl rfl) ?_
              refine op_false rfl (r_moveV (v := .bool (decide _)) rfl) (fun h => h rfl) ?_
              refine opG_yes rfl rfl rfl rfl rfl (r_moveV (v := .slice A24 (getR H ((k : Int) - 1)).d.length c24) rfl) ?_
              refine opG_yes rfl rfl rfl rfl rfl (r_moveV (v := .slice A26 (getR H ((k : Int) - 1)).d.length c26) rfl) ?_
              have hrc : dlT.Row w27 (old w27) A24 (getR H ((k : Int) - 1)).d := hr24.keep (fun b hb => (hE23.trans hE27).block b hb.2) (fun b hb => by have := hb.2; have := (hE23.trans hE27).size; show b < _; omega)
              have hrd : dlT.Row w27 (old w27) A26 (getR H ((k : Int) - 1)).d := hr26.keep (fun b hb => hE27.block b (by have := hb.1; have := hwk; omega)) (fun b hb => by have := hb.1; have := hwk; have := hE27.size; show b < _; omega)
              refine opGCv_yes rfl rfl rfl rfl rfl (r_call Tryd.func21 Tryd.nm21 rfl) (sameD_spec hrc hrd (by have := hg0.2.1; omega)) ?_
              rintro v28 w28 ⟨rfl, hE⟩
              replace B4_5 := Blk.ext B4_5 hE
              replace hX := hX.trans hE
              refine opG_yes rfl rfl rfl rfl rfl (r_notP rfl) ?_
              refine op rfl (r_pickFV (v := .bool _) rfl rfl) ?_
              refine op_false rfl (r_moveV (v := .bool (decide _)) rfl) (fun h => h rfl) ?_
              refine opG_yes rfl rfl rfl rfl rfl (r_moveV (v := .int .i64 (errR H ((k : Int) - 1))) rfl) ?_
              refine opG_yes rfl rfl rfl rfl rfl (r_moveV (v := .int .i64 (errR H ((k : Int) - 1))) rfl) ?_
              refine opG_yes rfl rfl rfl rfl rfl (r_neq rfl rfl) ?_
              refine op rfl (r_pickFV (v := .bool _) rfl rfl) ?_
              refine WL_nil ?_
              refine W_ifp rfl (fun ht166 => ?_) (fun ht166 => ?_)
              · exact absurd rfl ht166
              · refine W_skip ?_
                refine W_region ?_
                refine op rfl (r_moveV (v := .int _ _) rfl) ?_
                refine op rfl (r_add' (r := ((k + 1 : Nat) : Int) - 1) rfl rfl (by rw [wrap_i64 (by omega) (by omega)]; omega)) ?_
                refine op rfl (r_assignV (v := .int _ _) rfl) ?_
                refine WL_nil ?_
                refine ⟨?_, by repeat (first | with_reducible exact Out.refl _ _ | with_reducible exact Out.mix | refine Out.put rfl ?_ | refine Out.mixin rfl ?_ | exact Out.refl _ _ | exact Out.mix)⟩
                exact ⟨H.length + 2 - (k + 1), by omega, k + 1, rfl, by omega, rfl, hX⟩
            · refine W_exit (blk_hit ?_)
              refine W_seq ?_
              refine W_seq ?_
              refine W_region ?_
              refine op rfl (r_assignV (v := .int _ _) rfl) ?_
              refine WL_nil ?_
              refine W_block ?_
              refine W_loop [8, 28, 167, 168, 169, 170, 171, 172, 173, 174, 175, 176, 177, 178, 179, 180, 181, 182, 183, 184, 185] (fun q e' w' => ∃ (i : Nat), q = ss.length - i ∧ i ≤ ss.length ∧ e' 28 = .int .i64 i ∧ Ext we w') (ss.length) ?_ ?_
              · exact ⟨0, by omega, by omega, rfl, hX⟩
              intro k g w' hI
              obtain ⟨j, hqj, hjl, h28, hX3'⟩ := hI
              clear hX
              have hX := hX3'
              clear B4_5
              have B4_5 := Blk.ext B4e hX
              refine W_set (i := 28) h28 ?_
              refine W_seq ?_
              refine W_seq ?_
              refine W_region ?_
              refine op rfl (r_moveV (v := .int _ _) rfl) ?_
              refine op rfl (r_moveV (v := .slice _ _ _) rfl) ?_
              refine op rfl (r_len_slice rfl Tryd.underlying38) ?_
              refine op rfl (r_lss rfl rfl) ?_
              refine WL_nil ?_
              refine W_ifp rfl (fun ht170 => ?_) (fun ht170 => ?_)
              · have hltj : j < ss.length := by omega
                obtain ⟨g2, off2, hA2, _, hsl2, hcell2⟩ := hrows.cell hltj
                refine W_skip ?_
                refine W_seq ?_
                refine W_block ?_
                refine W_seq ?_
                refine W_drawF (W0 := we) (fun b : Nat => b = b4_5 ∨ False) Tryd.wd rfl ?_
                intro wd29 hD
                replace B4_5 := Blk.ext B4_5 hD
                replace hX := hX.trans hD
                have DB4_5 := B4_5
                have hS : Ext we wd29 ∧ Same (fun b : Nat => b = b4_5 ∨ False) wd29 wd29 := ⟨hX, fun _ _ => rfl⟩
                refine A_take (i := 0) rfl (by kernel_rfl) (by kernel_rfl) (by kernel_rfl) rfl hS (fun _ hw => r_moveV (v := hp p) (by rw [← hpv]; rfl)) ?_
                refine A_take (i := 1) rfl (by kernel_rfl) (by kernel_rfl) (by kernel_rfl) rfl hS (fun _ hw => r_moveV (v := .slice _ _ _) rfl) ?_
                refine A_take (i := 2) rfl (by kernel_rfl) (by kernel_rfl) (by kernel_rfl) rfl hS (fun _ hw => r_moveV (v := .int _ _) rfl) ?_
                refine A_take (i := 3) rfl (by kernel_rfl) (by kernel_rfl) (by kernel_rfl) rfl hS (fun _ hw => r_indexAddr1 rfl rfl hA2 Tryd.underlying38 Tryd.sz9 (by omega) (by omega)) ?_
                refine A_take (i := 4) rfl (by kernel_rfl) (by kernel_rfl) (by kernel_rfl) rfl hS (fun _ hw => r_load (v := .string (str ss[j])) rfl Tryd.underlying9 rfl (ext_cell (hX'.trans hw.1) hcell2)) ?_
                refine A_take (i := 6) rfl (by kernel_rfl) (by kernel_rfl) (by kernel_rfl) rfl hS (fun _ hw => r_loadRow rfl (Blk.at DB4_5 (hw.2 _ (Or.inl rfl))) Tryd.underlying52 rfl Tryd.sz52) ?_
                refine A_take (i := 7) rfl (by kernel_rfl) (by kernel_rfl) (by kernel_rfl) rfl hS (fun _ hw => r_moveV (v := .slice _ _ _) rfl) ?_
                refine A_take (i := 8) rfl (by kernel_rfl) (by kernel_rfl) (by kernel_rfl) rfl hS (fun _ hw => r_moveV (v := .int _ _) rfl) ?_
                refine A_take (i := 9) rfl (by kernel_rfl) (by kernel_rfl) (by kernel_rfl) rfl hS (fun _ hw => r_indexAddr1 rfl rfl hA2 Tryd.underlying38 Tryd.sz9 (by omega) (by omega)) ?_
                refine A_take (i := 10) rfl (by kernel_rfl) (by kernel_rfl) (by kernel_rfl) rfl hS (fun _ hw => r_load (v := .string (str ss[j])) rfl Tryd.underlying9 rfl (ext_cell (hX'.trans hw.1) hcell2)) ?_
                refine A_ready1 (i := 5) (by kernel_rfl) ?_
                refine O_call rfl rfl (r_call Tryd.func13 Tryd.nm13 rfl) (last_spec (hH'.ext hX) ss[j]) ?_
                rintro v30 w30 ⟨rfl, hE⟩
                replace B4_5 := Blk.ext B4_5 hE
                replace hX := hX.trans hE
                replace hS : Ext we w30 ∧ Same (fun b : Nat => b = b4_5 ∨ False) wd29 w30 := ⟨hX, fun b hb => Or.elim hb (fun q => by subst q; exact Blk.eq B4_5 DB4_5) (fun hb => hb.elim)⟩
                refine ⟨hS, ?_⟩
                refine A_ready1 (i := 11) (by kernel_rfl) ?_
                refine O_call rfl rfl (r_call Tryd.func29 Tryd.nm29 rfl) (refLast_spec (hRf.keep (fun b hb ↦ hX.block b hb.1) (fun _ h ↦ h)) hHl.1 hHl.2 (fun b hb ↦ Nat.lt_of_lt_of_le hb.1 hX.size) ss[j]) ?_
                rintro v31 w31 ⟨rfl, hE⟩
                replace B4_5 := Blk.ext B4_5 hE
                replace hX := hX.trans hE
                replace hS : Ext we w31 ∧ Same (fun b : Nat => b = b4_5 ∨ False) wd29 w31 := ⟨hX, fun b hb => Or.elim hb (fun q => by subst q; exact Blk.eq B4_5 DB4_5) (fun hb => hb.elim)⟩
                refine ⟨hS, ?_⟩
                refine A_take (i := 12) rfl (by kernel_rfl) (by kernel_rfl) (by kernel_rfl) rfl hS (fun _ hw => r_neq rfl rfl) ?_
                refine A_done (by kernel_rfl) ?_
                refine W_ifp rfl (fun ht185 => ?_) (fun ht185 => ?_)
                · exact absurd rfl ht185
                · refine W_skip ?_
                  refine W_region ?_
                  refine op rfl (r_moveV (v := .int _ _) rfl) ?_
                  refine op rfl (r_add' (r := ((j + 1 : Nat) : Int)) rfl rfl (by rw [wrap_i64 (by omega) (by omega)]; omega)) ?_
                  refine op rfl (r_assignV (v := .int _ _) rfl) ?_
                  refine WL_nil ?_
                  refine ⟨?_, by repeat (first | with_reducible exact Out.refl _ _ | with_reducible exact Out.mix | refine Out.put rfl ?_ | refine Out.mixin rfl ?_ | exact Out.refl _ _ | exact Out.mix)⟩
                  exact ⟨ss.length - (j + 1), by omega, j + 1, rfl, by omega, rfl, hX⟩
              · refine W_exit (blk_hit ?_)
                refine W_seq ?_
                refine W_region ?_
                refine opCv rfl (r_call Tryd.func10 Tryd.nm10 rfl) (known_spec _) ?_
                rintro v32 w32 ⟨rfl, hE⟩
                replace B4_5 := Blk.ext B4_5 hE
                replace hX := hX.trans hE
                refine op rfl (r_assignV (v := .bool _) rfl) ?_
                refine WL_nil ?_
                refine W_ret (finX_ret ?_)
                refine fin1 ?_
                first
                  | exact ⟨_, rfl, by first | rfl | exact (bool_tt trivial).symm, hX⟩
                  | exact ⟨_, rfl, by first | rfl | exact (bool_tt trivial).symm, hX'.trans hX⟩
theorem sum_mem {α : Type} (f : α → Nat) : ∀ {l : List α} {x : α}, x ∈ l → f x ≤ (l.map f).sum
  | y :: l, x, h => by
    rcases List.mem_cons.1 h with rfl | h
    · simp
    · have := sum_mem f h; simp only [List.map_cons, List.sum_cons]; omega
theorem sum_len {α : Type} (f : α → Nat) : ∀ (l : List α), (∀ x ∈ l, 1 ≤ f x) → l.length ≤ (l.map f).sum
  | [], _ => by simp
  | y :: l, h => by
    have := sum_len f l (fun x hx => h x (List.mem_cons_of_mem _ hx))
    have := h y List.mem_cons_self
    simp only [List.length_cons, List.map_cons, List.sum_cons]; omega
/-- How much a file counts, and a change. -/
abbrev fiMu (x : Fi) : Nat := (((fiF x).1.size + 1) + (((fiF x).2.map (fun _ => 1)).sum + 1)) + 1
abbrev dlMu (x : Dl) : Nat := (1 + (((dlF x).2.1.size + 1) + (((dlF x).2.2.map (fun _ => 1)).sum + 1))) + 1
theorem historySteps_row (W : World) (At : Option Addr) (ct : Nat) (t : List Fi) (hct : t.length ≤ ct) (ht : t.length ≤ big) (hT : fiT.Row W (old W) At t) (hbt : (t.map fiMu).sum + 1 ≤ 1048576)
  (Al : Option Addr) (cl : Nat) (l : List (List Dl)) (hcl : l.length ≤ cl) (hl : l.length ≤ big) (hL : dlsT.Row W (old W) Al l) (hbl : (l.map (fun ds => (ds.map dlMu).sum + 1)).sum + 1 ≤ 1048576) (r : Int) (hr : inK .i64 r)
  (As : Option Addr) (cs : Nat) (ss : List (List UInt8)) (hcs : ss.length ≤ cs) (hs : ss.length ≤ big) (hS : (Ty.string.iso str).Row W (old W) As ss) (hbs : (ss.map (fun x => (str x).size + 1)).sum + 1 ≤ 1048576) :
    Calls Tryd.prog 8 #[.slice At t.length ct, .slice Al l.length cl, .int .i64 r, .slice As ss.length cs] W (fun e W' => ∃ v, e = .returned v ∧ v = .bool true ∧ Ext W W') := by
  refine historySteps_walk hT hct ht hL hl hS ?_ ?_ ?_
  · have := sum_len (fun x : List UInt8 => (str x).size + 1) ss (fun x _ => by omega)
    omega
  · intro x hx
    have h1 := sum_mem fiMu hx
    have h2 : x.p.length + 1 ≤ fiMu x := by
      show x.p.length + 1 ≤ ((x.p.length + 1) + _) + 1
      omega
    omega
  · intro ds hds d hd
    have h1 := sum_mem (fun ds : List Dl => (ds.map dlMu).sum + 1) hds
    have h2 := sum_mem dlMu hd
    have h3 : d.p.length + 1 ≤ dlMu d := by
      show d.p.length + 1 ≤ (1 + ((d.p.length + 1) + _)) + 1
      omega
    have h4 : (ds.map dlMu).sum + 1 ≤ (l.map (fun ds : List Dl => (ds.map dlMu).sum + 1)).sum := h1
    omega
end Go.Proofs.YtkdcmdcdjnmkaaaDoor
