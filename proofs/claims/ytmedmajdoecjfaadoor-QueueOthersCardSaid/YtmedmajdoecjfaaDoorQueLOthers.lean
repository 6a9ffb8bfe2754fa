/-
  Of two requests of one base: the walk.
-/
import Derived.Test.YtmedmajdoecjfaaDoorFacts
import Derived.Test.YtmedmajdoecjfaaDoorQueH
import Derived.Test.YtmedmajdoecjfaaDoorLong
import Derived.Test.YtmedmajdoecjfaaDoorPut
import Derived.Test.YtmedmajdoecjfaaDoorRefY
namespace Go.Proofs.YtmedmajdoecjfaaDoor
open Go Go.Eng Go.RowKit Go.Proofs
set_option linter.unusedVariables false
set_option linter.unusedSimpArgs false
set_option maxHeartbeats 1000000
set_option maxRecDepth 20000

theorem oneD_row {w : World} {b c : Nat} {k : Int} {A : Option Addr} {p body : List UInt8} {G : Nat → Prop} (B : Blk w b #[.int .i64 k, .string (str p), .slice A body.length c] 38) (hG : G b) (hk : inK .i64 k) (hp : p.length ≤ 140737488355328) (hc : body.length ≤ c) (hl : body.length ≤ 140737488355328) (hr : Ty.byte.Row w G A body) : dlT.Row w G (some ⟨b, 0, none⟩) [⟨k, p, body⟩] := Blk.row B hG (fun i hi => by
  obtain rfl : i = 0 := by simp at hi; omega
  exact ⟨_, dl_mk (x := ⟨k, p, body⟩) (A := A) (c := c) hk hc hl hp hr, fun j hj => by simp⟩)
abbrev oQ (t : Tree) : Qs := ⟨[⟨[], t⟩], [], 9, fun _ => none⟩
abbrev oR (n : Int) (x a : List UInt8) : Rq := ⟨n, 0, [⟨2, x, a⟩]⟩
abbrev oQ1 (t : Tree) (x a : List UInt8) : Qs := { oQ t with ws := [oR 1 x a], tk := setK (oQ t).tk 1 none }
abbrev oQ2 (t : Tree) (x a y b : List UInt8) : Qs := { oQ t with ws := [oR 1 x a, oR 2 y b], tk := setK (setK (oQ t).tk 1 none) 2 none }
theorem o_sub1 (t : Tree) (x a : List UInt8) : submitR (oQ t) (oR 1 x a) = (oQ1 t x a, 0) := by
  rw [sub0 (by simp) (by simp) (by simp) (by simp)]; rfl
theorem o_sub2 (t : Tree) (x a y b : List UInt8) : submitR (oQ1 t x a) (oR 2 y b) = (oQ2 t x a y b, 0) := by
  rw [sub0 (by simp) (by simp) (by simp [setK]) (by simp)]; rfl
theorem touch1 (k : Int) (x a : List UInt8) (u : Tree) (s : List UInt8) : touch ⟨[⟨k, x, a⟩], u⟩ s = decide (x = s) := by simp [touch]
theorem o_steps {t : Tree} (h : rightT t) {x a y b : List UInt8} (hx : hasT t x = true) (hy : hasT t y = true) (ha : a.length ≤ 65536) (hb : b.length ≤ 65536) : ∃ q3 q4 c, stepQ (oQ2 t x a y b) true = (q3, ⟨1, 1, 1, 0⟩, true) ∧ stepQ q3 true = (q4, c, true) ∧ (x = y → c.kind = 2 ∧ q4.H.length = 2) ∧ (x ≠ y → c.kind = 1 ∧ c.rev = 2 ∧ lastR q4.H x = 1 ∧ lastR q4.H y = 2) := by
  obtain ⟨u, h1, hm, hr⟩ := modify_apply h hx ha
  have hyu : hasT u y = true := has_mem.2 (by rw [hm]; exact has_mem.1 hy)
  obtain ⟨u2, h2, hm2, hr2⟩ := modify_apply hr hyu hb
  have hc1 : commitR [⟨[], t⟩] [⟨2, x, a⟩] = ([⟨[], t⟩, ⟨[⟨2, x, a⟩], u⟩], 1, 0) := by
    have hh : headT [(⟨[], t⟩ : Rv)] = t := rfl
    rw [c_ok (by simp) (by simp) (by rw [hh, h1]), hh, h1]; rfl
  have hs1 : stepQ (oQ2 t x a y b) true = (⟨[⟨[], t⟩, ⟨[⟨2, x, a⟩], u⟩], [oR 2 y b], 9, setK (setK (setK (oQ t).tk 1 none) 2 none) 1 (some ⟨1, 1, 1, 0⟩)⟩, ⟨1, 1, 1, 0⟩, true) := by
    have hans : answerR [⟨[], t⟩] (oR 1 x a) true = ([⟨[], t⟩, ⟨[⟨2, x, a⟩], u⟩], ⟨1, 1, 1, 0⟩) := by
      rw [ans1 (notlate_fresh (Int.le_refl 0)) (by decide) (by show ¬ (commitR [⟨[], t⟩] [⟨2, x, a⟩]).2.2 ≠ 0; rw [hc1]; simp)]
      show ((commitR [⟨[], t⟩] [⟨2, x, a⟩]).1, (⟨1, 1, (commitR [⟨[], t⟩] [⟨2, x, a⟩]).2.1, 0⟩ : An)) = _
      rw [hc1]
    show ({ oQ t with H := (answerR [⟨[], t⟩] (oR 1 x a) true).1, ws := [oR 2 y b], tk := setK (setK (setK (oQ t).tk 1 none) 2 none) 1 (some (answerR [⟨[], t⟩] (oR 1 x a) true).2) }, (answerR [⟨[], t⟩] (oR 1 x a) true).2, true) = _
    rw [hans]
  have hl2 : ∀ s, lastR [⟨[], t⟩, ⟨[⟨2, x, a⟩], u⟩] s = if x = s then 1 else 0 := fun s => by
    have := lastR_snoc [⟨[], t⟩] ⟨[⟨2, x, a⟩], u⟩ s
    rw [touch1, last_fresh] at this
    simpa using this
  by_cases hxy : x = y
  · refine ⟨_, _, _, hs1, rfl, fun _ => ?_, fun q => absurd hxy q⟩
    have hl : lateR [⟨[], t⟩, ⟨[⟨2, x, a⟩], u⟩] (oR 2 y b) := ⟨⟨2, y, b⟩, List.mem_singleton.2 rfl, by show (0 : Int) < _; rw [hl2 y, if_pos hxy]; decide⟩
    show (answerR [⟨[], t⟩, ⟨[⟨2, x, a⟩], u⟩] (oR 2 y b) true).2.kind = 2 ∧ (answerR [⟨[], t⟩, ⟨[⟨2, x, a⟩], u⟩] (oR 2 y b) true).1.length = 2
    rw [ans2 hl]
    exact ⟨rfl, rfl⟩
  · refine ⟨_, _, _, hs1, rfl, fun q => absurd q hxy, fun _ => ?_⟩
    have hl : ¬ lateR [⟨[], t⟩, ⟨[⟨2, x, a⟩], u⟩] (oR 2 y b) := by
      rintro ⟨d, hd, hq⟩
      rw [List.mem_singleton.1 hd] at hq
      have hq' : (0 : Int) < (lastR [⟨[], t⟩, ⟨[⟨2, x, a⟩], u⟩] y : Nat) := hq
      rw [hl2 y, if_neg hxy] at hq'
      exact absurd hq' (by decide)
    have hc2 : commitR [⟨[], t⟩, ⟨[⟨2, x, a⟩], u⟩] [⟨2, y, b⟩] = ([⟨[], t⟩, ⟨[⟨2, x, a⟩], u⟩, ⟨[⟨2, y, b⟩], u2⟩], 2, 0) := by
      have hh : headT [(⟨[], t⟩ : Rv), ⟨[⟨2, x, a⟩], u⟩] = u := rfl
      rw [c_ok (by simp) (by simp) (by rw [hh, h2]), hh, h2]; rfl
    have hans : answerR [⟨[], t⟩, ⟨[⟨2, x, a⟩], u⟩] (oR 2 y b) true = ([⟨[], t⟩, ⟨[⟨2, x, a⟩], u⟩, ⟨[⟨2, y, b⟩], u2⟩], ⟨2, 1, 2, 0⟩) := by
      rw [ans1 hl (by decide) (by show ¬ (commitR [⟨[], t⟩, ⟨[⟨2, x, a⟩], u⟩] [⟨2, y, b⟩]).2.2 ≠ 0; rw [hc2]; simp)]
      show ((commitR [⟨[], t⟩, ⟨[⟨2, x, a⟩], u⟩] [⟨2, y, b⟩]).1, (⟨2, 1, (commitR [⟨[], t⟩, ⟨[⟨2, x, a⟩], u⟩] [⟨2, y, b⟩]).2.1, 0⟩ : An)) = _
      rw [hc2]
    have hl3 : ∀ s, lastR [⟨[], t⟩, ⟨[⟨2, x, a⟩], u⟩, ⟨[⟨2, y, b⟩], u2⟩] s = if y = s then 2 else if x = s then 1 else 0 := fun s => by
      have := lastR_snoc [⟨[], t⟩, ⟨[⟨2, x, a⟩], u⟩] ⟨[⟨2, y, b⟩], u2⟩ s
      rw [touch1, hl2] at this
      simpa using this
    show (answerR [⟨[], t⟩, ⟨[⟨2, x, a⟩], u⟩] (oR 2 y b) true).2.kind = 1 ∧ (answerR [⟨[], t⟩, ⟨[⟨2, x, a⟩], u⟩] (oR 2 y b) true).2.rev = 2 ∧ lastR (answerR [⟨[], t⟩, ⟨[⟨2, x, a⟩], u⟩] (oR 2 y b) true).1 x = 1 ∧ lastR (answerR [⟨[], t⟩, ⟨[⟨2, x, a⟩], u⟩] (oR 2 y b) true).1 y = 2
    rw [hans]
    refine ⟨rfl, rfl, ?_, ?_⟩
    · show lastR [⟨[], t⟩, ⟨[⟨2, x, a⟩], u⟩, ⟨[⟨2, y, b⟩], u2⟩] x = 1
      rw [hl3, if_neg (fun q => hxy q.symm), if_pos rfl]
    · show lastR [⟨[], t⟩, ⟨[⟨2, x, a⟩], u⟩, ⟨[⟨2, y, b⟩], u2⟩] y = 2
      rw [hl3, if_pos rfl]
theorem queueOthers_walk {At : Option Addr} {ct : Nat} {t : Tree} {Aa : Option Addr} {ca : Nat} {a : List UInt8} {Ab : Option Addr} {cb : Nat} {b : List UInt8} {ki kj : Int} {w : World} (ht : fiT.Row w (old w) At t) (htl : t.length ≤ 140737488355328) (ha : Ty.byte.Row w (old w) Aa a) (hca : a.length ≤ ca) (hal : a.length ≤ 140737488355328) (hb : Ty.byte.Row w (old w) Ab b) (hcb : b.length ≤ cb) (hbl : b.length ≤ 140737488355328) (hki : 0 ≤ ki ∧ ki ≤ 255) (hkj : 0 ≤ kj ∧ kj ≤ 255) :
    Calls Tryd.prog 3 #[.slice At t.length ct, .slice Aa a.length ca, .slice Ab b.length cb, .int .u8 ki, .int .u8 kj] w (fun en w' => ∃ v, en = .returned v ∧ v = .bool true ∧ Ext w w') := by
  have hat := fi_atL ht
  refine calls' (n := 163) (rs := #[.tmp 10]) (l := [.slice At t.length ct, .slice Aa a.length ca, .slice Ab b.length cb, .int .u8 ki, .int .u8 kj]) Tryd.func3 rfl rfl rfl rfl rfl ?_
  have hX := Ext.refl w
  refine W_seq ?_
  refine W_region ?_
  refine op rfl (r_assignV (v := .bool _) rfl) ?_
  refine WL_nil ?_
  refine W_seq ?_
  refine W_seq ?_
  refine W_region ?_
  refine op rfl (r_moveV (v := .slice _ _ _) rfl) ?_
  refine op rfl (r_len_slice rfl Tryd.underlying23) ?_
  refine op rfl (r_gtr rfl rfl) ?_
  refine op_split rfl (r_moveV (v := .bool (decide _)) rfl) (fun hg25 => ?_) (fun hg25 => ?_)
  · refine opG_no rfl rfl rfl rfl rfl ?_
    refine opG_no rfl rfl rfl rfl rfl ?_
    refine opG_no rfl rfl rfl rfl rfl ?_
    refine op rfl (r_pickTV (v := .bool _) rfl rfl) ?_
    refine op rfl (r_moveV (v := .bool _) rfl) ?_
    refine opG_no rfl rfl rfl rfl rfl ?_
    refine opG_no rfl rfl rfl rfl rfl ?_
    refine opG_no rfl rfl rfl rfl rfl ?_
    refine op rfl (r_pickTV (v := .bool _) rfl rfl) ?_
    refine op rfl (r_moveV (v := .bool _) rfl) ?_
    refine opG_no rfl rfl rfl rfl rfl ?_
    refine opG_no rfl rfl rfl rfl rfl ?_
    refine opG_no rfl rfl rfl rfl rfl ?_
    refine op rfl (r_pickTV (v := .bool _) rfl rfl) ?_
    refine op rfl (r_moveV (v := .bool _) rfl) ?_
    refine opG_no rfl rfl rfl rfl rfl ?_
    refine opG_no rfl rfl rfl rfl rfl ?_
    refine opG_no rfl rfl rfl rfl rfl ?_
    refine opG_no rfl rfl rfl rfl rfl ?_
    refine opG_no rfl rfl rfl rfl rfl ?_
    refine opG_no rfl rfl rfl rfl rfl ?_
    refine op rfl (r_pickTV (v := .bool _) rfl rfl) ?_
    refine WL_nil ?_
    refine W_then rfl ?_
    refine W_seq ?_
    refine W_region ?_
    refine opCv rfl (r_call Tryd.func12 Tryd.nm12 rfl) (known13_spec _) ?_
    rintro v9 w9 ⟨rfl, hE⟩
    replace hX := hX.trans hE
    refine op rfl (r_assignV (v := .bool _) rfl) ?_
    refine WL_nil ?_
    refine W_ret (finX_ret ?_)
    refine fin1 ?_
    exact ⟨_, rfl, by first | rfl | exact (bool_tt trivial).symm, by first | exact hX | exact hQ10.ext.trans hX⟩
  · refine opG_yes rfl rfl rfl rfl rfl (r_moveV (v := .slice _ _ _) rfl) ?_
    refine opGCv_yes rfl rfl rfl rfl rfl (r_call Tryd.func10 Tryd.nm10 rfl) (longF_spec (ht.ext hX) (by omega)) ?_
    rintro v1 w1 ⟨n1, rfl, hn1, hE⟩
    replace hX := hX.trans hE
    refine opG_yes rfl rfl rfl rfl rfl (r_gtr rfl rfl) ?_
    refine op rfl (r_pickFV (v := .bool _) rfl rfl) ?_
    refine op_split rfl (r_moveV (v := .bool (decide _)) rfl) (fun hg30 => ?_) (fun hg30 => ?_)
    · refine opG_no rfl rfl rfl rfl rfl ?_
      refine opG_no rfl rfl rfl rfl rfl ?_
      refine opG_no rfl rfl rfl rfl rfl ?_
      refine op rfl (r_pickTV (v := .bool _) rfl rfl) ?_
      refine op rfl (r_moveV (v := .bool _) rfl) ?_
      refine opG_no rfl rfl rfl rfl rfl ?_
      refine opG_no rfl rfl rfl rfl rfl ?_
      refine opG_no rfl rfl rfl rfl rfl ?_
      refine op rfl (r_pickTV (v := .bool _) rfl rfl) ?_
      refine op rfl (r_moveV (v := .bool _) rfl) ?_
      refine opG_no rfl rfl rfl rfl rfl ?_
      refine opG_no rfl rfl rfl rfl rfl ?_
      refine opG_no rfl rfl rfl rfl rfl ?_
      refine opG_no rfl rfl rfl rfl rfl ?_
      refine opG_no rfl rfl rfl rfl rfl ?_
      refine opG_no rfl rfl rfl rfl rfl ?_
      refine op rfl (r_pickTV (v := .bool _) rfl rfl) ?_
      refine WL_nil ?_
      refine W_then rfl ?_
      refine W_seq ?_
      refine W_region ?_
      refine opCv rfl (r_call Tryd.func12 Tryd.nm12 rfl) (known13_spec _) ?_
      rintro v9 w9 ⟨rfl, hE⟩
      replace hX := hX.trans hE
      refine op rfl (r_assignV (v := .bool _) rfl) ?_
      refine WL_nil ?_
      refine W_ret (finX_ret ?_)
      refine fin1 ?_
      exact ⟨_, rfl, by first | rfl | exact (bool_tt trivial).symm, by first | exact hX | exact hQ10.ext.trans hX⟩
    · refine opG_yes rfl rfl rfl rfl rfl (r_moveV (v := .slice _ _ _) rfl) ?_
      refine opG_yes rfl rfl rfl rfl rfl (r_len_slice rfl Tryd.underlying23) ?_
      refine opG_yes rfl rfl rfl rfl rfl (r_eql rfl rfl) ?_
      refine op rfl (r_pickFV (v := .bool _) rfl rfl) ?_
      refine op_split rfl (r_moveV (v := .bool (decide _)) rfl) (fun hg35 => ?_) (fun hg35 => ?_)
      · refine opG_no rfl rfl rfl rfl rfl ?_
        refine opG_no rfl rfl rfl rfl rfl ?_
        refine opG_no rfl rfl rfl rfl rfl ?_
        refine op rfl (r_pickTV (v := .bool _) rfl rfl) ?_
        refine op rfl (r_moveV (v := .bool _) rfl) ?_
        refine opG_no rfl rfl rfl rfl rfl ?_
        refine opG_no rfl rfl rfl rfl rfl ?_
        refine opG_no rfl rfl rfl rfl rfl ?_
        refine opG_no rfl rfl rfl rfl rfl ?_
        refine opG_no rfl rfl rfl rfl rfl ?_
        refine opG_no rfl rfl rfl rfl rfl ?_
        refine op rfl (r_pickTV (v := .bool _) rfl rfl) ?_
        refine WL_nil ?_
        refine W_then rfl ?_
        refine W_seq ?_
        refine W_region ?_
        refine opCv rfl (r_call Tryd.func12 Tryd.nm12 rfl) (known13_spec _) ?_
        rintro v9 w9 ⟨rfl, hE⟩
        replace hX := hX.trans hE
        refine op rfl (r_assignV (v := .bool _) rfl) ?_
        refine WL_nil ?_
        refine W_ret (finX_ret ?_)
        refine fin1 ?_
        exact ⟨_, rfl, by first | rfl | exact (bool_tt trivial).symm, by first | exact hX | exact hQ10.ext.trans hX⟩
      · refine opG_yes rfl rfl rfl rfl rfl (r_moveV (v := .slice _ _ _) rfl) ?_
        refine opGCv_yes rfl rfl rfl rfl rfl (r_call Tryd.func11 Tryd.nm11 rfl) (refTreeRight_spec (ht.ext hX) (by omega) (fun x hx ↦ by have := (hn1 x hx).1; omega)) ?_
        rintro v2 w2 ⟨rfl, hE⟩
        replace hX := hX.trans hE
        refine opG_yes rfl rfl rfl rfl rfl (r_notP rfl) ?_
        refine op rfl (r_pickFV (v := .bool _) rfl rfl) ?_
        refine op_split rfl (r_moveV (v := .bool (decide _)) rfl) (fun hg40 => ?_) (fun hg40 => ?_)
        · refine opG_no rfl rfl rfl rfl rfl ?_
          refine opG_no rfl rfl rfl rfl rfl ?_
          refine opG_no rfl rfl rfl rfl rfl ?_
          refine opG_no rfl rfl rfl rfl rfl ?_
          refine opG_no rfl rfl rfl rfl rfl ?_
          refine opG_no rfl rfl rfl rfl rfl ?_
          refine op rfl (r_pickTV (v := .bool _) rfl rfl) ?_
          refine WL_nil ?_
          refine W_then rfl ?_
          refine W_seq ?_
          refine W_region ?_
          refine opCv rfl (r_call Tryd.func12 Tryd.nm12 rfl) (known13_spec _) ?_
          rintro v9 w9 ⟨rfl, hE⟩
          replace hX := hX.trans hE
          refine op rfl (r_assignV (v := .bool _) rfl) ?_
          refine WL_nil ?_
          refine W_ret (finX_ret ?_)
          refine fin1 ?_
          exact ⟨_, rfl, by first | rfl | exact (bool_tt trivial).symm, by first | exact hX | exact hQ10.ext.trans hX⟩
        · refine opG_yes rfl rfl rfl rfl rfl (r_moveV (v := .slice _ _ _) rfl) ?_
          refine opG_yes rfl rfl rfl rfl rfl (r_len_slice rfl Tryd.underlying24) ?_
          refine opG_yes rfl rfl rfl rfl rfl (r_moveV (v := .slice _ _ _) rfl) ?_
          refine opG_yes rfl rfl rfl rfl rfl (r_len_slice rfl Tryd.underlying24) ?_
          refine opG_yes rfl rfl rfl rfl rfl (r_add' (r := ((a.length + b.length : Nat) : Int)) rfl rfl (by rw [wrap_i64 (by omega) (by omega)]; omega)) ?_
          refine opG_yes rfl rfl rfl rfl rfl (r_gtr rfl rfl) ?_
          refine op rfl (r_pickFV (v := .bool _) rfl rfl) ?_
          refine WL_nil ?_
          refine W_ifp rfl (fun ht47 => ?_) (fun ht47 => ?_)
          · refine W_seq ?_
            refine W_region ?_
            refine opCv rfl (r_call Tryd.func12 Tryd.nm12 rfl) (known13_spec _) ?_
            rintro v9 w9 ⟨rfl, hE⟩
            replace hX := hX.trans hE
            refine op rfl (r_assignV (v := .bool _) rfl) ?_
            refine WL_nil ?_
            refine W_ret (finX_ret ?_)
            refine fin1 ?_
            exact ⟨_, rfl, by first | rfl | exact (bool_tt trivial).symm, by first | exact hX | exact hQ10.ext.trans hX⟩
          · have hr : rightT t := Classical.not_not.1 hg40
            have h0 : t.length ≠ 0 := by omega
            have hX0 := hX
            obtain ⟨i, hi⟩ : ∃ i : Nat, (i : Int) = ki % (t.length : Int) := ⟨(ki % (t.length : Int)).toNat, by have := Int.emod_nonneg ki (show (t.length : Int) ≠ 0 by omega); omega⟩
            have hil : i < t.length := by have := Int.emod_lt_of_pos ki (show (0 : Int) < t.length by omega); omega
            obtain ⟨j, hj⟩ : ∃ i : Nat, (i : Int) = kj % (t.length : Int) := ⟨(kj % (t.length : Int)).toNat, by have := Int.emod_nonneg kj (show (t.length : Int) ≠ 0 by omega); omega⟩
            have hjl : j < t.length := by have := Int.emod_lt_of_pos kj (show (0 : Int) < t.length by omega); omega
            obtain ⟨g1, o1, A1, c1, hA1, hpi, -, hcell1⟩ := hat i hil
            obtain ⟨g2, o2, A2, c2, hA2, hpj, -, hcell2⟩ := hat j hjl
            obtain ⟨x, hx⟩ : ∃ x, x = t[i].p := ⟨_, rfl⟩
            obtain ⟨y, hy⟩ : ∃ y, y = t[j].p := ⟨_, rfl⟩
            rw [← hx] at hpi hcell1
            rw [← hy] at hpj hcell2
            obtain ⟨q3, q4, cc, hst1, hst2, hsame, hother⟩ := o_steps hr (x := x) (a := a) (y := y) (b := b) (has_mem.2 (by rw [hx]; exact List.mem_map.2 ⟨_, List.getElem_mem hil, rfl⟩)) (has_mem.2 (by rw [hy]; exact List.mem_map.2 ⟨_, List.getElem_mem hjl, rfl⟩)) (by omega) (by omega)
            refine W_skip ?_
            refine W_seq ?_
            refine W_region ?_
            refine op rfl (r_moveV (v := .slice _ _ _) rfl) ?_
            refine opCv rfl (r_call Tryd.func13 Tryd.nm13 rfl) (que_new2 (cap := ct) (G := old w) (fun b hb ↦ Nat.lt_of_lt_of_le hb hX.size) (ht.keep (fun b hb ↦ hX.block b hb) (fun _ h ↦ h)) hr) ?_
            rintro v1 w3 ⟨ph, rfl, hH, hE⟩
            replace hX := hX.trans hE
            have hG1 : HG w nobody ph w3 _ := HG.second (fun b q => q.elim) hX0 hH hE
            refine op rfl (r_moveV (v := .tuple #[hp ph, .int .i64 0]) rfl) ?_
            refine op rfl (r_extract (vs := [hp ph, .int .i64 0]) rfl rfl) ?_
            refine op rfl (r_extract (vs := [hp ph, .int .i64 0]) rfl rfl) ?_
            refine op rfl (r_assignV (v := hp ph) rfl) ?_
            refine op rfl (r_assignV (v := .int .i64 0) rfl) ?_
            refine WL_nil ?_
            refine W_seq ?_
            refine W_region ?_
            refine op rfl (r_moveV (v := hp ph) rfl) ?_
            refine opCv rfl (r_call Tryd.func14 Tryd.nm14 rfl) (newG hG1 9 (by decide)) ?_
            rintro v2 w4 ⟨pq, rfl, hQ, hE⟩
            replace hX := hX.trans hE
            have hQ4 : QG w nobody pq ph w4 (oQ t) := hQ
            have hX4 := hX
            clear hX
            have hX := Ext.refl w4
            refine op rfl (r_assignV (v := .pointer _) rfl) ?_
            refine WL_nil ?_
            refine W_seq ?_
            refine W_region ?_
            refine op rfl (r_moveV (v := .slice _ _ _) rfl) ?_
            refine op rfl (r_moveV (v := .int _ _) rfl) ?_
            refine op rfl (r_conv' (r := ki) rfl Tryd.underlying5 Tryd.underlying3 (wrap_i64 (by omega) (by omega))) ?_
            refine op rfl (r_moveV (v := .slice _ _ _) rfl) ?_
            refine op rfl (r_len_slice rfl Tryd.underlying23) ?_
            refine op rfl (r_rem' (r := (i : Int)) rfl rfl (by omega) (by rw [Int.tmod_eq_emod_of_nonneg hki.1]; exact hi.symm)) ?_
            refine op rfl (r_indexAddrK (i := i) (by rw [← hA1]; rfl) rfl Tryd.underlying23 Tryd.sz35 hil) ?_
            refine op rfl (r_fieldAddr rfl Tryd.fld35_0 rfl) ?_
            refine op rfl (r_load (v := .string (str x)) rfl Tryd.underlying9 rfl (ext_cell (hX4.trans hX) (hcell1 0 (by decide)))) ?_
            refine op rfl (r_assignV (v := .string _) rfl) ?_
            refine WL_nil ?_
            refine W_seq ?_
            refine W_region ?_
            refine op rfl (r_moveV (v := .slice _ _ _) rfl) ?_
            refine op rfl (r_moveV (v := .int _ _) rfl) ?_
            refine op rfl (r_conv' (r := kj) rfl Tryd.underlying5 Tryd.underlying3 (wrap_i64 (by omega) (by omega))) ?_
            refine op rfl (r_moveV (v := .slice _ _ _) rfl) ?_
            refine op rfl (r_len_slice rfl Tryd.underlying23) ?_
            refine op rfl (r_rem' (r := (j : Int)) rfl rfl (by omega) (by rw [Int.tmod_eq_emod_of_nonneg hkj.1]; exact hj.symm)) ?_
            refine op rfl (r_indexAddrK (i := j) (by rw [← hA2]; rfl) rfl Tryd.underlying23 Tryd.sz35 hjl) ?_
            refine op rfl (r_fieldAddr rfl Tryd.fld35_0 rfl) ?_
            refine op rfl (r_load (v := .string (str y)) rfl Tryd.underlying9 rfl (ext_cell (hX4.trans hX) (hcell2 0 (by decide)))) ?_
            refine op rfl (r_assignV (v := .string _) rfl) ?_
            refine WL_nil ?_
            refine W_seq ?_
            refine W_region ?_
            refine op rfl (r_moveV (v := hp pq) rfl) ?_
            refine op rfl (r_moveV (v := .string _) rfl) ?_
            refine op rfl (r_moveV (v := .slice _ _ _) rfl) ?_
            refine op rfl (r_build (cs := [.int .i64 2, .string (str x), .slice Aa a.length ca]) Tryd.lay38 (List.forall_mem_cons.2 ⟨rfl, List.forall_mem_cons.2 ⟨rfl, List.forall_mem_cons.2 ⟨rfl, fun _ h => absurd h List.not_mem_nil⟩⟩⟩) rfl rfl) ?_
            refine op_newS rfl (r_buildRows (vs := [[.int .i64 2, .string (str x), .slice Aa a.length ca]]) Tryd.underlying39 Tryd.sz38 Tryd.zero38 rfl rfl rfl) ?_
            intro w7 b7 E7 B7 L7
            replace hX := hX.trans E7
            refine op rfl (r_build (cs := [.int .i64 1, .int .i64 0, .slice (some ⟨b7, 0, none⟩) 1 1]) Tryd.lay41 (List.forall_mem_cons.2 ⟨rfl, List.forall_mem_cons.2 ⟨rfl, fun _ h => absurd h List.not_mem_nil⟩⟩) rfl rfl) ?_
            have hG7 := hQ4.all hX
            have hw7 : w4.heap.size ≤ b7 ∧ b7 < w7.heap.size := ⟨by omega, Blk.lt B7⟩
            have hrow7 : dlT.Row w7 (fun k => k < w.heap.size ∨ k = b7) (some ⟨b7, 0, none⟩) (oR 1 x a).l := oneD_row B7 (Or.inr rfl) (by decide) hpi hca hal (ha.keep (fun b hb => (hX4.trans hX).block b hb) (fun _ h => Or.inl h))
            refine opCv rfl (r_call Tryd.func15 Tryd.nm15 rfl) (submitG hG7 (oR 1 x a) (c := 1) (fun k hk ↦ hk.elim Or.inl (fun hk ↦ Or.inr (Or.inr (by rw [hk]; exact hw7)))) hrow7 (show inK .i64 (1 : Int) by decide) (show inK .i64 (0 : Int) by decide) (by simp)) ?_
            rintro v7 w7a ⟨hv7, hQ7, hK7⟩
            rw [o_sub1] at hv7 hQ7
            subst hv7
            have hX7 := hQ7.ext
            clear hX
            have hX := Ext.refl w7a
            refine op rfl (r_assignV (v := .int _ _) rfl) ?_
            refine WL_nil ?_
            refine W_seq ?_
            refine W_region ?_
            refine op rfl (r_moveV (v := hp pq) rfl) ?_
            refine op rfl (r_moveV (v := .string _) rfl) ?_
            refine op rfl (r_moveV (v := .slice _ _ _) rfl) ?_
            refine op rfl (r_build (cs := [.int .i64 2, .string (str y), .slice Ab b.length cb]) Tryd.lay38 (List.forall_mem_cons.2 ⟨rfl, List.forall_mem_cons.2 ⟨rfl, List.forall_mem_cons.2 ⟨rfl, fun _ h => absurd h List.not_mem_nil⟩⟩⟩) rfl rfl) ?_
            refine op_newS rfl (r_buildRows (vs := [[.int .i64 2, .string (str y), .slice Ab b.length cb]]) Tryd.underlying39 Tryd.sz38 Tryd.zero38 rfl rfl rfl) ?_
            intro w8 b8 E8 B8 L8
            replace hX := hX.trans E8
            refine op rfl (r_build (cs := [.int .i64 2, .int .i64 0, .slice (some ⟨b8, 0, none⟩) 1 1]) Tryd.lay41 (List.forall_mem_cons.2 ⟨rfl, List.forall_mem_cons.2 ⟨rfl, fun _ h => absurd h List.not_mem_nil⟩⟩) rfl rfl) ?_
            have hG8 := hQ7.all hX
            have hw8 : w7a.heap.size ≤ b8 ∧ b8 < w8.heap.size := ⟨by omega, Blk.lt B8⟩
            have hrow8 : dlT.Row w8 (fun k => k < w.heap.size ∨ k = b8) (some ⟨b8, 0, none⟩) (oR 2 y b).l := oneD_row B8 (Or.inr rfl) (by decide) hpj hcb hbl (hb.keep (fun b hb => (hX7.trans hX).block b hb) (fun _ h => Or.inl h))
            refine opCv rfl (r_call Tryd.func15 Tryd.nm15 rfl) (submitG hG8 (oR 2 y b) (c := 1) (fun k hk ↦ hk.elim Or.inl (fun hk ↦ Or.inr (Or.inr (by rw [hk]; exact hw8)))) hrow8 (show inK .i64 (2 : Int) by decide) (show inK .i64 (0 : Int) by decide) (by simp)) ?_
            rintro v8 w8a ⟨hv8, hQ8, hK8⟩
            rw [o_sub2] at hv8 hQ8
            subst hv8
            clear hX
            have hX := Ext.refl w8a
            refine op rfl (r_assignV (v := .int _ _) rfl) ?_
            refine WL_nil ?_
            refine W_seq ?_
            refine W_region ?_
            refine op rfl (r_moveV (v := hp pq) rfl) ?_
            refine opCv rfl (r_call Tryd.func16 Tryd.nm16 rfl) (stepG hQ8 true) ?_
            rintro v9 w9 ⟨hv9, hQ9, hK9⟩
            rw [hst1] at hv9 hQ9
            subst hv9
            clear hX
            have hX := Ext.refl w9
            refine op rfl (r_moveV (v := .tuple #[.agg #[.int .i64 1, .int .i64 1, .int .i64 1, .int .i64 0], .bool (decide True)]) rfl) ?_
            refine op rfl (r_extract (vs := [.agg #[.int .i64 1, .int .i64 1, .int .i64 1, .int .i64 0], .bool (decide True)]) rfl rfl) ?_
            refine op rfl (r_extract (vs := [.agg #[.int .i64 1, .int .i64 1, .int .i64 1, .int .i64 0], .bool (decide True)]) rfl rfl) ?_
            refine op_alloc rfl Tryd.zero43 ?_
            intro w9_5 b9_5 E9_5 B9_5 L9_5
            have hG9_5 : w9.heap.size ≤ b9_5 := by have := hX.size; omega
            replace hX := hX.trans E9_5
            refine op_storeRow rfl rfl Tryd.sz43 B9_5 rfl rfl ?_
            intro w9_6 C9_6 BB9_6
            replace hX := hX.chg C9_6 hG9_5
            replace B9_5 := BB9_6
            refine op rfl (r_assignV (v := .bool (decide True)) rfl) ?_
            refine WL_nil ?_
            refine W_seq ?_
            refine W_region ?_
            refine op rfl (r_moveV (v := hp pq) rfl) ?_
            have hG10 := hQ9.all hX
            have lb9 := Blk.lt B9_5
            have hb9 : w9.heap.size ≤ b9_5 := by omega
            refine opCv rfl (r_call Tryd.func16 Tryd.nm16 rfl) (stepG hG10 true) ?_
            rintro v10 w10 ⟨hv10, hQ10, hK10⟩
            rw [hst2] at hv10 hQ10
            subst hv10
            have D9 := B9_5.at (hK10.same b9_5 (Or.inr (Or.inr ⟨hb9, lb9⟩)))
            clear hX B9_5
            have hX := Ext.refl w10
            have B9_5 := D9
            refine op rfl (r_moveV (v := .tuple #[.agg cc.vals.toArray, .bool (decide True)]) rfl) ?_
            refine op rfl (r_extract (vs := [.agg cc.vals.toArray, .bool (decide True)]) rfl rfl) ?_
            refine op rfl (r_extract (vs := [.agg cc.vals.toArray, .bool (decide True)]) rfl rfl) ?_
            refine op_alloc rfl Tryd.zero43 ?_
            intro w10_5 b10_5 E10_5 B10_5 L10_5
            have hG10_5 : w10.heap.size ≤ b10_5 := by have := hX.size; omega
            have hNb9_5_10_5 : b9_5 ≠ b10_5 := by have := Blk.lt B9_5; omega
            replace B9_5 := Blk.ext B9_5 E10_5
            replace hX := hX.trans E10_5
            refine op_storeRow rfl rfl Tryd.sz43 B10_5 rfl rfl ?_
            intro w10_6 C10_6 BB10_6
            replace B9_5 := Chg.blk C10_6 B9_5 hNb9_5_10_5
            replace hX := hX.chg C10_6 hG10_5
            replace B10_5 := BB10_6
            refine op rfl (r_assignV (v := .bool (decide True)) rfl) ?_
            refine WL_nil ?_
            refine W_seq ?_
            refine W_seq ?_
            refine W_region ?_
            refine op rfl (r_moveV (v := .int .i64 0) rfl) ?_
            refine op rfl (r_neq rfl rfl) ?_
            refine op_false rfl (r_moveV (v := .bool (decide _)) rfl) (fun h => h rfl) ?_
            refine opG_yes rfl rfl rfl rfl rfl (r_moveV (v := .int _ _) rfl) ?_
            refine opG_yes rfl rfl rfl rfl rfl (r_neq rfl rfl) ?_
            refine op rfl (r_pickFV (v := .bool _) rfl rfl) ?_
            refine op_false rfl (r_moveV (v := .bool (decide _)) rfl) (fun h => h rfl) ?_
            refine opG_yes rfl rfl rfl rfl rfl (r_moveV (v := .int _ _) rfl) ?_
            refine opG_yes rfl rfl rfl rfl rfl (r_neq rfl rfl) ?_
            refine op rfl (r_pickFV (v := .bool _) rfl rfl) ?_
            refine op_false rfl (r_moveV (v := .bool (decide _)) rfl) (fun h => h rfl) ?_
            refine opG_yes rfl rfl rfl rfl rfl (r_moveV (v := .bool (decide True)) rfl) ?_
            refine opG_yes rfl rfl rfl rfl rfl (r_notP rfl) ?_
            refine op rfl (r_pickFV (v := .bool _) rfl rfl) ?_
            refine op_false rfl (r_moveV (v := .bool (decide _)) rfl) (fun h => h trivial) ?_
            refine opG_yes rfl rfl rfl rfl rfl (r_moveV (v := .bool (decide True)) rfl) ?_
            refine opG_yes rfl rfl rfl rfl rfl (r_notP rfl) ?_
            refine op rfl (r_pickFV (v := .bool _) rfl rfl) ?_
            refine op_false rfl (r_moveV (v := .bool (decide _)) rfl) (fun h => h trivial) ?_
            refine opG_yes rfl rfl rfl rfl rfl (r_fieldAddr rfl Tryd.fld43_1 rfl) ?_
            refine opG_yes rfl rfl rfl rfl rfl (r_load (v := .int .i64 1) rfl Tryd.underlying3 rfl (Blk.cell B9_5 rfl)) ?_
            refine opG_yes rfl rfl rfl rfl rfl (r_neq rfl rfl) ?_
            refine op rfl (r_pickFV (v := .bool _) rfl rfl) ?_
            refine op_false rfl (r_moveV (v := .bool (decide _)) rfl) (fun h => h rfl) ?_
            refine opG_yes rfl rfl rfl rfl rfl (r_fieldAddr rfl Tryd.fld43_2 rfl) ?_
            refine opG_yes rfl rfl rfl rfl rfl (r_load (v := .int .i64 1) rfl Tryd.underlying3 rfl (Blk.cell B9_5 rfl)) ?_
            refine opG_yes rfl rfl rfl rfl rfl (r_neq rfl rfl) ?_
            refine op rfl (r_pickFV (v := .bool _) rfl rfl) ?_
            refine WL_nil ?_
            refine W_ifp rfl (fun ht125 => ?_) (fun ht125 => ?_)
            · exact absurd rfl ht125
            · refine W_skip ?_
              refine W_seq ?_
              refine W_seq ?_
              refine W_region ?_
              refine op rfl (r_moveV (v := .string _) rfl) ?_
              refine op rfl (r_moveV (v := .string _) rfl) ?_
              refine op rfl (rt_eql rfl rfl) ?_
              refine WL_nil ?_
              refine W_ifp rfl (fun ht128 => ?_) (fun ht128 => ?_)
              · refine W_seq ?_
                refine W_region ?_
                refine op rfl (r_fieldAddr rfl Tryd.fld43_1 rfl) ?_
                refine op rfl (r_load (v := .int .i64 cc.kind) rfl Tryd.underlying3 rfl (Blk.cell B10_5 rfl)) ?_
                refine op rfl (r_eql rfl rfl) ?_
                refine op_true rfl (r_moveV (v := .bool (decide _)) rfl) ((hsame ht128).1) ?_
                refine opG_yes rfl rfl rfl rfl rfl (r_moveV (v := hp ph) rfl) ?_
                refine opGCv_yes rfl rfl rfl rfl rfl (r_call Tryd.func17 Tryd.nm17 rfl) (head_spec (hQ10.que.hist.ext hX)) ?_
                rintro v14 w14 ⟨rfl, hE⟩
                replace B9_5 := Blk.ext B9_5 hE
                replace B10_5 := Blk.ext B10_5 hE
                replace hX := hX.trans hE
                refine opG_yes rfl rfl rfl rfl rfl (r_eql rfl rfl) ?_
                refine op rfl (r_pickTV (v := .bool _) rfl rfl) ?_
                refine op_true rfl (r_moveV (v := .bool (decide _)) rfl) (by rw [(hsame ht128).2]; rfl) ?_
                refine opGCv_yes rfl rfl rfl rfl rfl (r_call Tryd.func12 Tryd.nm12 rfl) (known13_spec _) ?_
                rintro v15 w15 ⟨rfl, hE⟩
                replace B9_5 := Blk.ext B9_5 hE
                replace B10_5 := Blk.ext B10_5 hE
                replace hX := hX.trans hE
                refine op rfl (r_pickTV (v := .bool _) rfl rfl) ?_
                refine op rfl (r_assignV (v := .bool _) rfl) ?_
                refine WL_nil ?_
                refine W_ret (finX_ret ?_)
                refine fin1 ?_
                exact ⟨_, rfl, by first | rfl | exact (bool_tt trivial).symm, by first | exact hX | exact hQ10.ext.trans hX⟩
              · refine W_skip ?_
                refine W_seq ?_
                refine W_region ?_
                refine op rfl (r_fieldAddr rfl Tryd.fld43_1 rfl) ?_
                refine op rfl (r_load (v := .int .i64 cc.kind) rfl Tryd.underlying3 rfl (Blk.cell B10_5 rfl)) ?_
                refine op rfl (r_eql rfl rfl) ?_
                refine op_true rfl (r_moveV (v := .bool (decide _)) rfl) ((hother ht128).1) ?_
                refine opG_yes rfl rfl rfl rfl rfl (r_fieldAddr rfl Tryd.fld43_2 rfl) ?_
                refine opG_yes rfl rfl rfl rfl rfl (r_load (v := .int .i64 cc.rev) rfl Tryd.underlying3 rfl (Blk.cell B10_5 rfl)) ?_
                refine opG_yes rfl rfl rfl rfl rfl (r_eql rfl rfl) ?_
                refine op rfl (r_pickTV (v := .bool _) rfl rfl) ?_
                refine op_true rfl (r_moveV (v := .bool (decide _)) rfl) ((hother ht128).2.1) ?_
                refine opG_yes rfl rfl rfl rfl rfl (r_moveV (v := hp ph) rfl) ?_
                refine opG_yes rfl rfl rfl rfl rfl (r_moveV (v := .string _) rfl) ?_
                refine opGCv_yes rfl rfl rfl rfl rfl (r_call Tryd.func18 Tryd.nm18 rfl) (last_spec (hQ10.que.hist.ext hX) x) ?_
                rintro v16 w16 ⟨rfl, hE⟩
                replace B9_5 := Blk.ext B9_5 hE
                replace B10_5 := Blk.ext B10_5 hE
                replace hX := hX.trans hE
                refine opG_yes rfl rfl rfl rfl rfl (r_eql rfl rfl) ?_
                refine op rfl (r_pickTV (v := .bool _) rfl rfl) ?_
                refine op_true rfl (r_moveV (v := .bool (decide _)) rfl) (by rw [(hother ht128).2.2.1]; rfl) ?_
                refine opG_yes rfl rfl rfl rfl rfl (r_moveV (v := hp ph) rfl) ?_
                refine opG_yes rfl rfl rfl rfl rfl (r_moveV (v := .string _) rfl) ?_
                refine opGCv_yes rfl rfl rfl rfl rfl (r_call Tryd.func18 Tryd.nm18 rfl) (last_spec (hQ10.que.hist.ext hX) y) ?_
                rintro v17 w17 ⟨rfl, hE⟩
                replace B9_5 := Blk.ext B9_5 hE
                replace B10_5 := Blk.ext B10_5 hE
                replace hX := hX.trans hE
                refine opG_yes rfl rfl rfl rfl rfl (r_eql rfl rfl) ?_
                refine op rfl (r_pickTV (v := .bool _) rfl rfl) ?_
                refine op_true rfl (r_moveV (v := .bool (decide _)) rfl) (by rw [(hother ht128).2.2.2]; rfl) ?_
                refine opGCv_yes rfl rfl rfl rfl rfl (r_call Tryd.func12 Tryd.nm12 rfl) (known13_spec _) ?_
                rintro v18 w18 ⟨rfl, hE⟩
                replace B9_5 := Blk.ext B9_5 hE
                replace B10_5 := Blk.ext B10_5 hE
                replace hX := hX.trans hE
                refine op rfl (r_pickTV (v := .bool _) rfl rfl) ?_
                refine op rfl (r_assignV (v := .bool _) rfl) ?_
                refine WL_nil ?_
                refine W_ret (finX_ret ?_)
                refine fin1 ?_
                exact ⟨_, rfl, by first | rfl | exact (bool_tt trivial).symm, by first | exact hX | exact hQ10.ext.trans hX⟩
theorem queueOthers_row (W : World) (A0 : Option Addr) (c0 : Nat) (l0 : List Fi) (h0 : l0.length ≤ c0) (b0 : l0.length ≤ big) (r0 : fiT.Row W (old W) A0 l0) (A1 : Option Addr) (c1 : Nat) (l1 : List UInt8) (h1 : l1.length ≤ c1) (b1 : l1.length ≤ big) (r1 : Ty.byte.Row W (old W) A1 l1) (A2 : Option Addr) (c2 : Nat) (l2 : List UInt8) (h2 : l2.length ≤ c2) (b2 : l2.length ≤ big) (r2 : Ty.byte.Row W (old W) A2 l2) (i : Int) (hi : inK .u8 i) (j : Int) (hj : inK .u8 j) :
    Calls Tryd.prog 3 #[.slice A0 l0.length c0, .slice A1 l1.length c1, .slice A2 l2.length c2, .int .u8 i, .int .u8 j] W (fun e W' => ∃ v, e = .returned v ∧ v = .bool true ∧ Ext W W') :=
  queueOthers_walk r0 b0 r1 h1 b1 r2 h2 b2 (by simp only [inK, lo, Go.Eng.hi] at hi; exact hi) (by simp only [inK, lo, Go.Eng.hi] at hj; exact hj)
end Go.Proofs.YtmedmajdoecjfaaDoor
