/-
  With power for so much just so many bytes are there; then all is told to be dead, till it is restarted: the walk.
-/
import Derived.Test.YtfgffaphpedimaaFacts
import Derived.Test.YtfgffaphpedimaaDiskK
import Derived.Test.YtfgffaphpedimaaDiskV
namespace Go.Proofs.Ytfgffaphpedimaa
open Go Go.Eng Go.RowKit Go.Proofs
set_option linter.unusedVariables false
set_option linter.unusedSimpArgs false
set_option maxHeartbeats 4000000
set_option maxRecDepth 20000

section
variable {P : Program} {ρ : Operand → Value} {w : World} {d : Option Tmp} {t : TypeId} {pos : String} {af : Array Edge} {g : Option (Nat × Bool)} {x y : Operand} {xt yt : TypeId}
theorem r_neqP {p q : Prop} {dp : Decidable p} {dq : Decidable q} (hx : ρ x = .bool (@decide p dp)) (hy : ρ y = .bool (@decide q dq)) (hu : P.underlying xt = some .bool) : (execOp ρ ⟨d, .binOp .neq xt x y yt, t, pos, af, g⟩).run P w = .ok (.value (.bool (decide (¬ (p ↔ q))))) w := by
  rw [rb_neq hx hy hu]
  congr 3
  by_cases hp : p <;> by_cases hq : q <;> simp [hp, hq]
theorem r_eqlP {p q : Prop} {dp : Decidable p} {dq : Decidable q} (hx : ρ x = .bool (@decide p dp)) (hy : ρ y = .bool (@decide q dq)) (hu : P.underlying xt = some .bool) : (execOp ρ ⟨d, .binOp .eql xt x y yt, t, pos, af, g⟩).run P w = .ok (.value (.bool (decide (p ↔ q)))) w := by
  rw [rb_eql hx hy hu]
  congr 3
  by_cases hp : p <;> by_cases hq : q <;> simp [hp, hq]
end
/-- Power for k more. -/
structure Arm (D : Dk) (k : Nat) : Prop where
  armed : D.armed = true
  dead : D.dead = false
  power : D.power = k
theorem grow_arm : ∀ (l : List UInt8) {D : Dk} (a k : Nat), Arm D k → (D.grow a l).n = D.n ∧ (D.grow a l).armed = true ∧ ((D.grow a l).ar a).now = (D.ar a).now ++ l.take k ∧ ((D.grow a l).ar a).lasts = (D.ar a).lasts ∧ (if l.length ≤ k then Arm (D.grow a l) (k - l.length) else (D.grow a l).dead = true)
  | [], D, a, k, h => by
    refine ⟨rfl, h.armed, by simp [Dk.grow], rfl, ?_⟩
    simp only [List.length_nil, Nat.zero_le, if_true, Nat.sub_zero]
    exact h
  | c :: l, D, a, 0, h => by
    have hu : D.unit = ({ D with dead := true }, false) := by unfold Dk.unit; rw [if_pos ⟨h.armed, h.power⟩]
    have hg : D.grow a (c :: l) = D.unit.1 := by
      show (if D.unit.2 = true then _ else _) = _
      rw [hu]; simp
    rw [hg, hu]
    exact ⟨rfl, h.armed, by simp, rfl, by simp⟩
  | c :: l, D, a, k + 1, h => by
    have hp := h.power
    have hu : D.unit = ({ D with power := D.power - 1 }, true) := by unfold Dk.unit; rw [if_neg (by rintro ⟨_, q⟩; rw [hp] at q; omega)]
    have hg : D.grow a (c :: l) = (D.unit.1.put a (.grow c)).grow a l := by
      show (if D.unit.2 = true then _ else _) = _
      rw [hu]; simp
    have ha : Arm (D.unit.1.put a (.grow c)) k := by
      rw [hu]
      exact ⟨h.armed, h.dead, by show D.power - 1 = _; rw [hp]; omega⟩
    obtain ⟨h1, h2, h3, h4, h5⟩ := grow_arm l a k ha
    rw [hg]
    refine ⟨by rw [h1, hu]; rfl, h2, ?_, ?_, ?_⟩
    · rw [h3, hu]; simp [Dk.put, upd_same, St.run]
    · rw [h4, hu]; simp [Dk.put, upd_same]
    · by_cases hl : l.length ≤ k
      · rw [if_pos (by simp; omega)]
        rw [if_pos hl] at h5
        rw [show k + 1 - (c :: l).length = k - l.length by simp only [List.length_cons]; omega]
        exact h5
      · rw [if_neg (by simp; omega)]
        rw [if_neg hl] at h5
        exact h5
theorem dead_op {D : Dk} (h : D.dead = true) (hn : D.n = 1) : (D.append 0 []).2 = 10 ∧ (D.append 0 []).1 = D ∧ (D.sync 0) = (D, 10) ∧ (D.cut 0 0) = (D, 10) ∧ (D.sync 1) = (D, 2) := by
  have ht : D.there 0 := by unfold Dk.there; omega
  have ht1 : ¬ D.there 1 := by unfold Dk.there; omega
  have hm : D.may 0 = 10 := by unfold Dk.may; rw [if_pos ht, if_pos h]
  refine ⟨?_, ?_, ?_, ?_, no_sync ht1⟩
  · unfold Dk.append; rw [if_pos (by omega)]; exact hm
  · unfold Dk.append; rw [if_pos (by omega)]
  · unfold Dk.sync; rw [if_pos (by omega), hm]
  · unfold Dk.cut; rw [if_pos (by omega), hm]
/-- What comes of an Append of power k. -/
theorem power_law (b : List UInt8) (k : Nat) (hb : b.length ≤ 600) (hk : k ≤ 1000000) :
    let D1 := (Dk.new 1 5000).arm k
    let D2 := (D1.append 0 b).1
    D2.n = 1 ∧ (D2.read 0) = b.take k ∧ (D1.append 0 b).2 = (if b.length ≤ k then 0 else 10) ∧ (D2.dead = true ↔ ¬ b.length ≤ k) ∧ (b.length ≤ k → Arm D2 (k - b.length) ∧ (D2.ar 0).lasts = [] ∧ (D2.ar 0).now = b) := by
  intro D1 D2
  have ha : Arm D1 k := by
    refine ⟨rfl, rfl, ?_⟩
    show max 0 (min (k : Int) 1000000000) = k
    omega
  have hn1 : D1.n = 1 := rfl
  have ht : D1.there 0 := by unfold Dk.there; rw [hn1]; omega
  have hm : D1.may 0 = 0 := by unfold Dk.may; rw [if_pos ht, ha.dead]; simp
  have hu : D1.used = 0 := sumTo_zero (fun i hi => rfl)
  have hr : D1.room = 5000 := rfl
  have e : D1.append 0 b = (D1.grow (0 : Int).toNat b, (D1.grow (0 : Int).toNat b).may 0) := by unfold Dk.append; rw [if_neg (by omega), if_neg (by rw [hu, hr]; omega)]
  have d2 : D2 = D1.grow 0 b := by show (D1.append 0 b).1 = _; rw [e]; rfl
  obtain ⟨h1, h2, h3, h4, h5⟩ := grow_arm b 0 k ha
  rw [← d2] at h1 h2 h3 h4 h5
  have ht2 : D2.there 0 := by unfold Dk.there; rw [h1, hn1]; omega
  have hnow0 : (D1.ar 0).now = [] := rfl
  have hlast0 : (D1.ar 0).lasts = [] := rfl
  refine ⟨h1, ?_, ?_, ?_, ?_⟩
  · unfold Dk.read; rw [if_pos ht2]
    show (D2.ar 0).now = _
    rw [h3, hnow0, List.nil_append]
  · have e2 : (D1.append 0 b).2 = D2.may 0 := by rw [e, d2]; rfl
    rw [e2]
    unfold Dk.may
    rw [if_pos ht2]
    by_cases hl : b.length ≤ k
    · rw [if_pos hl] at h5 ⊢; rw [h5.dead]; simp
    · rw [if_neg hl] at h5 ⊢; rw [if_pos h5]
  · by_cases hl : b.length ≤ k
    · rw [if_pos hl] at h5; rw [h5.dead]; simp [hl]
    · rw [if_neg hl] at h5; simp [hl, h5]
  · intro hl
    rw [if_pos hl] at h5
    exact ⟨h5, by rw [h4, hlast0], by rw [h3, hnow0, List.nil_append, List.take_of_length_le hl]⟩
/-- Then it is synced, and restarted. -/
theorem power_law2 {D2 : Dk} {q : Nat} {b : List UInt8} (h : Arm D2 q) (hn : D2.n = 1) (hl : (D2.ar 0).lasts = []) (hw : (D2.ar 0).now = b) :
    (D2.sync 0).2 = (if q = 0 then 10 else 0) ∧ (((D2.sync 0).1.restart 0).read 0 = if q = 0 then [] else b) ∧ ((D2.sync 0).1.restart 0).dead = false ∧ (((D2.sync 0).1.restart 0).sync 0).2 = 0 := by
  have ht : D2.there 0 := by unfold Dk.there; omega
  have hm : D2.may 0 = 0 := by unfold Dk.may; rw [if_pos ht, h.dead]; simp
  have key : ∀ E : Dk, E.n = 1 → E.lasting 0 = (E.ar 0).lasts ∧ ((E.restart 0).read 0 = (E.ar 0).lasts) ∧ (E.restart 0).dead = false ∧ ((E.restart 0).sync 0).2 = 0 := by
    intro E hE
    have hth : E.there 0 := by unfold Dk.there; omega
    have hth2 : (E.restart 0).there 0 := hth
    refine ⟨by unfold Dk.lasting; rw [if_pos hth]; rfl, ?_, rfl, (live_sync (D := E.restart 0) ⟨rfl, rfl⟩ hth2).1⟩
    unfold Dk.read
    rw [if_pos hth2]
    show ((E.restart 0).ar 0).now = _
    have h0 : (0 : Nat) < E.n := by omega
    simp only [Dk.restart, h0, if_true, Ar.back]
    simp [runs]
  cases q with
  | zero =>
    have hu : D2.unit = ({ D2 with dead := true }, false) := by unfold Dk.unit; rw [if_pos ⟨h.armed, h.power⟩]
    have e : D2.sync 0 = (D2.unit.1, D2.unit.1.may 0) := by unfold Dk.sync; rw [if_neg (by omega), hu]; simp
    have hn3 : (D2.sync 0).1.n = 1 := by rw [e, hu]; exact hn
    obtain ⟨k1, k2, k3, k4⟩ := key _ hn3
    refine ⟨?_, ?_, k3, k4⟩
    · rw [e, hu]
      show Dk.may _ 0 = _
      unfold Dk.may
      rw [if_pos (by exact ht)]
      simp
    · rw [k2, e, hu]
      show (D2.ar 0).lasts = _
      rw [hl]; simp
  | succ q =>
    have hp := h.power
    have hu : D2.unit = ({ D2 with power := D2.power - 1 }, true) := by unfold Dk.unit; rw [if_neg (by rintro ⟨_, z⟩; rw [hp] at z; omega)]
    have e : D2.sync 0 = (D2.unit.1.synced (0 : Int).toNat, (D2.unit.1.synced (0 : Int).toNat).may 0) := by unfold Dk.sync; rw [if_neg (by omega), hu]; simp
    have hn3 : (D2.sync 0).1.n = 1 := by rw [e, hu]; exact hn
    obtain ⟨k1, k2, k3, k4⟩ := key _ hn3
    refine ⟨?_, ?_, k3, k4⟩
    · rw [e, hu]
      show Dk.may _ 0 = _
      unfold Dk.may
      rw [if_pos (by exact ht)]
      have : (({ D2 with power := D2.power - 1 } : Dk).synced (0 : Int).toNat).dead = false := h.dead
      rw [this]; simp
    · rw [k2, e, hu]
      show ((({ D2 with power := D2.power - 1 } : Dk).synced 0).ar 0).lasts = _
      unfold Dk.synced
      rw [upd_same]
      simp [hw]
theorem diskPower_walk (W : World) (A : Option Addr) (c : Nat) (b : List UInt8) (hc : b.length ≤ c) (hb : b.length ≤ big) (hA : Ty.byte.Row W (old W) A b) (n : Int) (hn : inK .u16 n) :
    Calls Try.prog 5 #[.slice A b.length c, .int .u16 n] W (fun e W' => ∃ v, e = .returned v ∧ v = .bool true ∧ Ext W W') := by
  have hbb : b.length ≤ 140737488355328 := hb
  have hn0 : 0 ≤ n ∧ n ≤ 65535 := by simp only [inK, lo, hi] at hn; exact hn
  clear hb hn
  obtain ⟨k, hk, hk7⟩ : ∃ k : Nat, n.tmod 700 = k ∧ k < 700 := by
    rw [Int.tmod_eq_emod_of_nonneg hn0.1]
    exact ⟨(n % 700).toNat, by omega, by omega⟩
  refine calls' (n := 116) (rs := #[.tmp 4]) (l := [.slice A b.length c, .int .u16 n]) Try.func5 rfl rfl rfl rfl rfl ?_
  refine W_seq ?_
  refine W_region ?_
  refine op rfl (r_assignV (v := .bool _) rfl) ?_
  refine WL_nil ?_
  refine W_seq ?_
  refine W_seq ?_
  refine W_region ?_
  refine op rfl (r_moveV (v := .slice _ _ _) rfl) ?_
  refine op rfl (r_len_slice rfl Try.underlying23) ?_
  refine op rfl (r_gtr rfl rfl) ?_
  refine WL_nil ?_
  refine W_ifp rfl (fun ht12 => ?_) (fun ht12 => ?_)
  · refine W_seq ?_
    refine W_region ?_
    refine opCv rfl (r_call Try.func10 Try.nm10 rfl) (known_spec _) ?_
    rintro v w2 ⟨rfl, hE2⟩
    refine op rfl (r_assignV (v := .bool _) rfl) ?_
    refine WL_nil ?_
    refine W_ret (finX_ret ?_)
    refine fin1 ?_
    exact ⟨_, rfl, rfl, hE2⟩
  · have hb6 : b.length ≤ 600 := by omega
    obtain ⟨p1, p2, p3, p4, p5⟩ := power_law b k hb6 (by omega)
    have hw0 := (WF.new 1 5000).arm k
    have hw2 := hw0.append 0 b
    generalize hg1 : (Dk.new 1 5000).arm k = D1 at p1 p2 p3 p4 p5 hw0 hw2
    generalize hg2 : (D1.append 0 b).1 = D2 at p1 p2 p3 p4 p5 hw2
    refine W_skip ?_
    refine W_seq ?_
    refine W_region ?_
    refine opCv rfl (r_call Try.func11 Try.nm11 rfl) (new_da 1 5000 _) ?_
    rintro v w1 ⟨p, rfl, hE1, hD0⟩
    refine op rfl (r_assignV (v := .pointer _) rfl) ?_
    refine WL_nil ?_
    refine W_seq ?_
    refine W_region ?_
    refine op rfl (r_moveV (v := .int _ _) rfl) ?_
    refine op rfl (r_conv' rfl Try.underlying34 Try.underlying3 (wrap_i64 (by omega) (by omega))) ?_
    refine op rfl (r_rem' rfl rfl (by decide) hk) ?_
    refine op rfl (r_assignV (v := .int _ _) rfl) ?_
    refine WL_nil ?_
    refine W_seq ?_
    refine W_region ?_
    refine op rfl (r_moveV (v := .pointer _) rfl) ?_
    refine op rfl (r_moveV (v := .int _ _) rfl) ?_
    refine opCv rfl (r_call Try.func21 Try.nm21 rfl) (arm_da hD0 k) ?_
    rintro v w2 ⟨hD1, hB1⟩
    rw [hg1] at hD1
    have hX1 : Ext W w2 := Below.trans hE1 hB1
    refine WL_nil ?_
    refine W_seq ?_
    refine W_region ?_
    refine op rfl (r_moveV (v := .pointer _) rfl) ?_
    refine op rfl (r_moveV (v := .slice _ _ _) rfl) ?_
    refine opCv rfl (r_call Try.func12 Try.nm12 rfl) (append_da hD1 hw0 (by omega) 0 A c b hbb (F := old W) (fun x hx ↦ hx) (hA.keep hX1.same (fun _ h ↦ h))) ?_
    rintro v w3 ⟨rfl, hD2, hB2⟩
    rw [hg2] at hD2
    rw [p3]
    have hX2 : Ext W w3 := Below.trans hX1 hB2
    obtain ⟨er, her⟩ : ∃ q : Int, (if b.length ≤ k then 0 else 10) = q := ⟨_, rfl⟩
    have her0 : er = 0 ↔ b.length ≤ k := by rw [← her]; by_cases hz : b.length ≤ k <;> simp [hz]
    have her10 : er ≠ 0 → er = 10 := by rw [← her]; split <;> simp
    rw [her]
    refine op rfl (r_assignV (v := .int _ _) rfl) ?_
    refine WL_nil ?_
    refine W_seq ?_
    refine W_seq ?_
    refine W_drawA Try.wd rfl ?_
    intro wd7 hD
    have hS : anyW wd7 := trivial
    refine A_take (i := 0) rfl (by kernel_rfl) (by kernel_rfl) (by kernel_rfl) rfl hS (fun _ hw => r_moveV (v := .int .i64 er) rfl) ?_
    refine A_take (i := 1) rfl (by kernel_rfl) (by kernel_rfl) (by kernel_rfl) rfl hS (fun _ hw => r_eql rfl rfl) ?_
    refine A_take (i := 2) rfl (by kernel_rfl) (by kernel_rfl) (by kernel_rfl) rfl hS (fun _ hw => r_moveV (v := .int _ _) rfl) ?_
    refine A_take (i := 3) rfl (by kernel_rfl) (by kernel_rfl) (by kernel_rfl) rfl hS (fun _ hw => r_moveV (v := .slice _ _ _) rfl) ?_
    refine A_take (i := 4) rfl (by kernel_rfl) (by kernel_rfl) (by kernel_rfl) rfl hS (fun _ hw => r_len_slice rfl Try.underlying23) ?_
    refine A_take (i := 5) rfl (by kernel_rfl) (by kernel_rfl) (by kernel_rfl) rfl hS (fun _ hw => r_geq rfl rfl) ?_
    refine A_take (i := 6) rfl (by kernel_rfl) (by kernel_rfl) (by kernel_rfl) rfl hS (fun _ hw => r_neqP rfl rfl Try.underlying4) ?_
    refine A_false (i := 7) rfl (by kernel_rfl) (by kernel_rfl) (by kernel_rfl) rfl hS (fun _ _ => r_moveV (v := .bool (decide _)) rfl) (fun h => h (by rw [her0]; omega)) ?_
    refine A_takeG (i := 8) rfl (by kernel_rfl) (by kernel_rfl) (by kernel_rfl) rfl hS rfl rfl rfl rfl (fun _ hw => r_moveV (v := .int .i64 er) rfl) ?_
    refine A_takeG (i := 9) rfl (by kernel_rfl) (by kernel_rfl) (by kernel_rfl) rfl hS rfl rfl rfl rfl (fun _ hw => r_neq rfl rfl) ?_
    refine A_splitG (i := 10) rfl (by kernel_rfl) (by kernel_rfl) (by kernel_rfl) rfl hS rfl rfl rfl rfl (fun _ _ => r_moveV (v := .bool (decide _)) rfl) (fun hg34 => ?_) (fun hg34 => ?_)
    · refine A_takeG (i := 11) rfl (by kernel_rfl) (by kernel_rfl) (by kernel_rfl) rfl hS rfl rfl rfl rfl (fun _ hw => r_moveV (v := .int .i64 er) rfl) ?_
      refine A_takeG (i := 12) rfl (by kernel_rfl) (by kernel_rfl) (by kernel_rfl) rfl hS rfl rfl rfl rfl (fun _ hw => r_neq rfl rfl) ?_
      refine A_takeG (i := 13) rfl (by kernel_rfl) (by kernel_rfl) (by kernel_rfl) rfl hS rfl rfl rfl rfl (fun _ hw => r_pickTV (v := .bool _) rfl rfl) ?_
      refine A_take (i := 14) rfl (by kernel_rfl) (by kernel_rfl) (by kernel_rfl) rfl hS (fun _ hw => r_pickFV (v := .bool _) rfl rfl) ?_
      have hX3 := hX2.trans hD
      have hD3 := hD2.ext hD
      refine A_false (i := 15) rfl (by kernel_rfl) (by kernel_rfl) (by kernel_rfl) rfl hS (fun _ _ => r_moveV (v := .bool (decide _)) rfl) (fun h => h (her10 hg34)) ?_
      refine A_takeG (i := 16) rfl (by kernel_rfl) (by kernel_rfl) (by kernel_rfl) rfl hS rfl rfl rfl rfl (fun _ hw => r_moveV (v := .pointer _) rfl) ?_
      refine A_takeG (i := 18) rfl (by kernel_rfl) (by kernel_rfl) (by kernel_rfl) rfl hS rfl rfl rfl rfl (fun _ hw => r_moveV (v := .int .i64 er) rfl) ?_
      refine A_takeG (i := 19) rfl (by kernel_rfl) (by kernel_rfl) (by kernel_rfl) rfl hS rfl rfl rfl rfl (fun _ hw => r_neq rfl rfl) ?_
      refine A_ready1 (i := 17) (by kernel_rfl) ?_
      refine O_callG rfl rfl rfl rfl rfl rfl (r_call Try.func22 Try.nm22 rfl) (dead_da hD3) ?_
      rintro v w4 ⟨rfl, hE4⟩
      replace hS := trivial
      refine ⟨hS, ?_⟩
      have hX4 := hX3.trans hE4
      have hD4 := hD3.ext hE4
      have hdd : (Value.bool D2.dead) = .bool (decide (D2.dead = true)) := by simp
      rw [hdd]
      refine A_takeG (i := 20) rfl (by kernel_rfl) (by kernel_rfl) (by kernel_rfl) rfl hS rfl rfl rfl rfl (fun _ hw => r_neqP rfl rfl Try.underlying4) ?_
      refine A_take (i := 21) rfl (by kernel_rfl) (by kernel_rfl) (by kernel_rfl) rfl hS (fun _ hw => r_pickFV (v := .bool _) rfl rfl) ?_
      refine A_false (i := 22) rfl (by kernel_rfl) (by kernel_rfl) (by kernel_rfl) rfl hS (fun _ _ => r_moveV (v := .bool (decide _)) rfl) (fun h => h (by rw [p4, not_congr her0.symm])) ?_
      refine A_takeG (i := 23) rfl (by kernel_rfl) (by kernel_rfl) (by kernel_rfl) rfl hS rfl rfl rfl rfl (fun _ hw => r_moveV (v := .pointer _) rfl) ?_
      refine A_takeG (i := 25) rfl (by kernel_rfl) (by kernel_rfl) (by kernel_rfl) rfl hS rfl rfl rfl rfl (fun _ hw => r_moveV (v := .slice _ _ _) rfl) ?_
      refine A_takeG (i := 26) rfl (by kernel_rfl) (by kernel_rfl) (by kernel_rfl) rfl hS rfl rfl rfl rfl (fun _ hw => r_moveV (v := .int _ _) rfl) ?_
      refine A_takeG (i := 27) rfl (by kernel_rfl) (by kernel_rfl) (by kernel_rfl) rfl hS rfl rfl rfl rfl (fun _ hw => r_moveV (v := .slice _ _ _) rfl) ?_
      refine A_takeG (i := 28) rfl (by kernel_rfl) (by kernel_rfl) (by kernel_rfl) rfl hS rfl rfl rfl rfl (fun _ hw => r_len_slice rfl Try.underlying23) ?_
      refine A_takeG (i := 29) rfl (by kernel_rfl) (by kernel_rfl) (by kernel_rfl) rfl hS rfl rfl rfl rfl (fun _ hw => (show _ = Result.ok (Next.value (.int .i64 ((min k b.length : Nat) : Int))) _ from by rw [show ((min k b.length : Nat) : Int) = min (k : Int) (b.length : Int) by omega]; exact r_min2 rfl rfl)) ?_
      refine A_takeG (i := 30) rfl (by kernel_rfl) (by kernel_rfl) (by kernel_rfl) rfl hS rfl rfl rfl rfl (fun _ hw => r_sliceHi (j := min k b.length) rfl rfl Try.underlying23 Try.sz5 (by omega)) ?_
      refine A_ready1 (i := 24) (by kernel_rfl) ?_
      refine O_callG rfl rfl rfl rfl rfl rfl (r_call Try.func14 Try.nm14 rfl) (read_da hD4 hw2 (by omega) 0) ?_
      rintro v w5 ⟨A5, c5, rfl, hE5, hR5⟩
      replace hS := trivial
      refine ⟨hS, ?_⟩
      have hX5 := hX4.trans hE5
      have hD5 := hD4.ext hE5
      have hml : (b.take (min k b.length)).length = min k b.length := by simp
      have SS := same_spec A5 c5 _ A c (b.take (min k b.length)) w5 hR5 (((hA.ext hX5) : Ty.byte.Row w5 (old w5) A b).take (min k b.length))
      rw [hml] at SS
      refine A_ready1 (i := 31) (by kernel_rfl) ?_
      refine O_callG rfl rfl rfl rfl rfl rfl (r_call Try.func16 Try.nm16 rfl) (SS) ?_
      rintro v w6 ⟨rfl, hE6⟩
      replace hS := trivial
      refine ⟨hS, ?_⟩
      have hX6 := hX5.trans hE6
      have hD6 := hD5.ext hE6
      refine A_takeG (i := 32) rfl (by kernel_rfl) (by kernel_rfl) (by kernel_rfl) rfl hS rfl rfl rfl rfl (fun _ hw => r_notP rfl) ?_
      refine A_take (i := 33) rfl (by kernel_rfl) (by kernel_rfl) (by kernel_rfl) rfl hS (fun _ hw => r_pickFV (v := .bool _) rfl rfl) ?_
      refine A_done (by kernel_rfl) ?_
      refine W_ifp rfl (fun ht57 => ?_) (fun ht57 => ?_)
      · refine absurd ?_ ht57
        rw [p2]
        by_cases hkl : b.length ≤ k
        · rw [List.take_of_length_le hkl, List.take_of_length_le (by omega)]
        · rw [show min k b.length = k by omega]
      · refine W_skip ?_
        refine W_seq ?_
        refine W_seq ?_
        refine W_region ?_
        refine op rfl (r_moveV (v := .int _ _) rfl) ?_
        refine op rfl (r_neq rfl rfl) ?_
        refine WL_nil ?_
        refine W_ifp rfl (fun ht59 => ?_) (fun ht59 => ?_)
        · have hdead : D2.dead = true := p4.2 (fun q => ht59 (her0.2 q))
          obtain ⟨d1, d2, d3, d4, d5⟩ := dead_op hdead p1
          refine W_seq ?_
          refine W_region ?_
          refine op rfl (r_moveV (v := .pointer _) rfl) ?_
          refine opCv rfl (r_call Try.func12 Try.nm12 rfl) (append_da hD6 hw2 (by omega) 0 none 0 [] (by simp) (F := fun _ ↦ False) (fun x hx ↦ hx.elim) Ty.Row.nil) ?_
          rintro v w7 ⟨rfl, hD7, hB7⟩
          rw [d2] at hD7
          rw [d1]
          have hX7 : Ext W w7 := Below.trans hX6 hB7
          refine op rfl (r_eql rfl rfl) ?_
          refine op_true rfl (r_moveV (v := .bool (decide _)) rfl) (rfl) ?_
          refine opG_yes rfl rfl rfl rfl rfl (r_moveV (v := .pointer _) rfl) ?_
          refine opGCv_yes rfl rfl rfl rfl rfl (r_call Try.func13 Try.nm13 rfl) (sync_da hD7 hw2 (by omega) 0) ?_
          rintro v w8 ⟨rfl, hD8, hB8⟩
          rw [d3] at hD8
          rw [d3]
          have hX8 : Ext W w8 := Below.trans hX7 hB8
          refine opG_yes rfl rfl rfl rfl rfl (r_eql rfl rfl) ?_
          refine op rfl (r_pickTV (v := .bool _) rfl rfl) ?_
          refine op_true rfl (r_moveV (v := .bool (decide _)) rfl) (rfl) ?_
          refine opG_yes rfl rfl rfl rfl rfl (r_moveV (v := .pointer _) rfl) ?_
          refine opGCv_yes rfl rfl rfl rfl rfl (r_call Try.func19 Try.nm19 rfl) (cut_da hD8 hw2 (by omega) 0 0) ?_
          rintro v w9 ⟨rfl, hD9, hB9⟩
          have hD9' : DA p W.heap.size w9 (D2.cut 0 0).1 := hD9
          rw [d4] at hD9'
          have e9 : ((D2, (10 : Int)).1.cut 0 0).2 = 10 := by show (D2.cut 0 0).2 = 10; rw [d4]
          rw [e9]
          have hX9 : Ext W w9 := Below.trans hX8 hB9
          refine opG_yes rfl rfl rfl rfl rfl (r_eql rfl rfl) ?_
          refine op rfl (r_pickTV (v := .bool _) rfl rfl) ?_
          refine op_true rfl (r_moveV (v := .bool (decide _)) rfl) (rfl) ?_
          refine opG_yes rfl rfl rfl rfl rfl (r_moveV (v := .pointer _) rfl) ?_
          refine opGCv_yes rfl rfl rfl rfl rfl (r_call Try.func13 Try.nm13 rfl) (sync_da (D := D2) hD9' hw2 (by omega) 1) ?_
          rintro v w10 ⟨rfl, hD10, hB10⟩
          rw [d5]
          have hX10 : Ext W w10 := Below.trans hX9 hB10
          refine opG_yes rfl rfl rfl rfl rfl (r_eql rfl rfl) ?_
          refine op rfl (r_pickTV (v := .bool _) rfl rfl) ?_
          refine op_true rfl (r_moveV (v := .bool (decide _)) rfl) (rfl) ?_
          refine opGCv_yes rfl rfl rfl rfl rfl (r_call Try.func10 Try.nm10 rfl) (known_spec _) ?_
          rintro v w11 ⟨rfl, hE11⟩
          refine op rfl (r_pickTV (v := .bool _) rfl rfl) ?_
          refine op rfl (r_assignV (v := .bool _) rfl) ?_
          refine WL_nil ?_
          refine W_ret (finX_ret ?_)
          refine fin1 ?_
          first
            | exact ⟨_, rfl, rfl, hX10.trans hE11⟩
            | exact ⟨_, rfl, rfl, hX12.trans hE13⟩
        · have hle : b.length ≤ k := her0.1 (Classical.byContradiction ht59)
          obtain ⟨pa, pl, pn⟩ := p5 hle
          obtain ⟨q1, q2, q3, q4⟩ := power_law2 pa p1 pl pn
          have hw3 := hw2.sync 0
          have hw4 := hw3.restart 0
          generalize hg3 : (D2.sync 0).1 = D3 at q1 q2 q3 q4 hw3 hw4
          generalize hg4 : D3.restart 0 = D4 at q2 q3 q4 hw4
          refine W_skip ?_
          refine W_seq ?_
          refine W_region ?_
          refine op rfl (r_moveV (v := .pointer _) rfl) ?_
          refine opCv rfl (r_call Try.func13 Try.nm13 rfl) (sync_da hD6 hw2 (by omega) 0) ?_
          rintro v w7 ⟨rfl, hD7, hB7⟩
          rw [hg3] at hD7
          rw [q1]
          have hX7 : Ext W w7 := Below.trans hX6 hB7
          refine op rfl (r_assignV (v := .int _ _) rfl) ?_
          refine WL_nil ?_
          refine W_seq ?_
          refine W_region ?_
          refine op rfl (r_moveV (v := .pointer _) rfl) ?_
          refine opCv rfl (r_call Try.func15 Try.nm15 rfl) (restart_da hD7 hw3 (by omega) 0) ?_
          rintro v w8 ⟨hD8, hB8⟩
          rw [hg4] at hD8
          have hX8 : Ext W w8 := Below.trans hX7 hB8
          refine WL_nil ?_
          refine W_seq ?_
          refine W_region ?_
          refine op rfl (r_moveV (v := .slice _ _ _) rfl) ?_
          refine op rfl (r_assignV (v := .slice _ _ _) rfl) ?_
          refine WL_nil ?_
          refine W_cut [9, 86, 87, 88, 89] (fun e' w' => ∃ A9 c9 l9, e' 9 = .slice A9 (List.length l9) c9 ∧ l9 = (if k - b.length = 0 then [] else b) ∧ Ext W w' ∧ DA p W.heap.size w' D4 ∧ Ty.byte.Row w' (old w') A9 l9) ?_ ?_
          · refine W_seq ?_
            refine W_region ?_
            refine op rfl (r_moveV (v := .int _ _) rfl) ?_
            refine op rfl (r_moveV (v := .slice _ _ _) rfl) ?_
            refine op rfl (r_len_slice rfl Try.underlying23) ?_
            refine op rfl (r_eql rfl rfl) ?_
            refine WL_nil ?_
            refine W_ifp rfl (fun ht89 => ?_) (fun ht89 => ?_)
            · refine W_region ?_
              refine op rfl (r_assignV (v := .slice _ _ _) rfl) ?_
              refine WL_nil ?_
              refine ⟨?_, by repeat (first | with_reducible exact Out.refl _ _ | with_reducible exact Out.mix | refine Out.put rfl ?_ | refine Out.mixin rfl ?_ | exact Out.refl _ _ | exact Out.mix)⟩
              first | exact ⟨none, 0, [], rfl, by rw [if_pos (by omega)], hX8, hD8, Ty.Row.nil⟩ | exact ⟨A, c, b, rfl, by rw [if_neg (by omega)], hX8, hD8, hA.ext hX8⟩
            · refine W_skip ?_
              refine ⟨?_, by repeat (first | with_reducible exact Out.refl _ _ | with_reducible exact Out.mix | refine Out.put rfl ?_ | refine Out.mixin rfl ?_ | exact Out.refl _ _ | exact Out.mix)⟩
              first | exact ⟨none, 0, [], rfl, by rw [if_pos (by omega)], hX8, hD8, Ty.Row.nil⟩ | exact ⟨A, c, b, rfl, by rw [if_neg (by omega)], hX8, hD8, hA.ext hX8⟩
          rintro gift89 w' hJ
          obtain ⟨A9, c9, l9, h9, hl9, hX8', hD8', hR9⟩ := hJ
          clear hX8 hD8
          have hX8 := hX8'
          have hD8 := hD8'
          clear hX8' hD8'
          refine W_set (i := 9) h9 ?_
          refine W_seq ?_
          refine W_region ?_
          refine op rfl (r_moveV (v := .int _ _) rfl) ?_
          refine op rfl (r_eql rfl rfl) ?_
          refine op rfl (r_moveV (v := .int _ _) rfl) ?_
          refine op rfl (r_moveV (v := .slice _ _ _) rfl) ?_
          refine op rfl (r_len_slice rfl Try.underlying23) ?_
          refine op rfl (r_gtr rfl rfl) ?_
          refine op rfl (r_eqlP rfl rfl Try.underlying4) ?_
          refine op_true rfl (r_moveV (v := .bool (decide _)) rfl) (by split <;> omega) ?_
          refine opG_yes rfl rfl rfl rfl rfl (r_moveV (v := .pointer _) rfl) ?_
          refine opGCv_yes rfl rfl rfl rfl rfl (r_call Try.func14 Try.nm14 rfl) (read_da hD8 hw4 (by omega) 0) ?_
          rintro v w9 ⟨A10, c10, rfl, hE9, hR10⟩
          have hX9 := hX8.trans hE9
          have hD9 := hD8.ext hE9
          refine opG_yes rfl rfl rfl rfl rfl (r_moveV (v := .slice _ _ _) rfl) ?_
          refine opGCv_yes rfl rfl rfl rfl rfl (r_call Try.func16 Try.nm16 rfl) (same_spec A10 c10 _ A9 c9 l9 _ hR10 (hR9.ext hE9)) ?_
          rintro v w10 ⟨rfl, hE10⟩
          have hX10 := hX9.trans hE10
          have hD10 := hD9.ext hE10
          refine op rfl (r_pickTV (v := .bool _) rfl rfl) ?_
          refine op_true rfl (r_moveV (v := .bool (decide _)) rfl) (by rw [q2, hl9]) ?_
          refine opG_yes rfl rfl rfl rfl rfl (r_moveV (v := .pointer _) rfl) ?_
          refine opGCv_yes rfl rfl rfl rfl rfl (r_call Try.func22 Try.nm22 rfl) (dead_da hD10) ?_
          rintro v w11 ⟨rfl, hE11⟩
          have hX11 := hX10.trans hE11
          have hD11 := hD10.ext hE11
          rw [q3]
          refine opG_yes rfl rfl rfl rfl rfl (r_notP (p := False) rfl) ?_
          refine op rfl (r_pickTV (v := .bool _) rfl rfl) ?_
          refine op_true rfl (r_moveV (v := .bool (decide _)) rfl) (fun h => h) ?_
          refine opG_yes rfl rfl rfl rfl rfl (r_moveV (v := .pointer _) rfl) ?_
          refine opGCv_yes rfl rfl rfl rfl rfl (r_call Try.func13 Try.nm13 rfl) (sync_da hD11 hw4 (by omega) 0) ?_
          rintro v w12 ⟨rfl, hD12, hB12⟩
          rw [q4]
          have hX12 : Ext W w12 := Below.trans hX11 hB12
          refine opG_yes rfl rfl rfl rfl rfl (r_eql rfl rfl) ?_
          refine op rfl (r_pickTV (v := .bool _) rfl rfl) ?_
          refine op_true rfl (r_moveV (v := .bool (decide _)) rfl) (rfl) ?_
          refine opGCv_yes rfl rfl rfl rfl rfl (r_call Try.func10 Try.nm10 rfl) (known_spec _) ?_
          rintro v w13 ⟨rfl, hE13⟩
          refine op rfl (r_pickTV (v := .bool _) rfl rfl) ?_
          refine op rfl (r_assignV (v := .bool _) rfl) ?_
          refine WL_nil ?_
          refine W_ret (finX_ret ?_)
          refine fin1 ?_
          first
            | exact ⟨_, rfl, rfl, hX10.trans hE11⟩
            | exact ⟨_, rfl, rfl, hX12.trans hE13⟩
    · refine A_skip (i := 11) rfl (by kernel_rfl) (by kernel_rfl) (by kernel_rfl) rfl hS rfl rfl rfl rfl ?_
      refine A_skip (i := 12) rfl (by kernel_rfl) (by kernel_rfl) (by kernel_rfl) rfl hS rfl rfl rfl rfl ?_
      refine A_takeG (i := 13) rfl (by kernel_rfl) (by kernel_rfl) (by kernel_rfl) rfl hS rfl rfl rfl rfl (fun _ hw => r_pickFV (v := .bool _) rfl rfl) ?_
      refine A_take (i := 14) rfl (by kernel_rfl) (by kernel_rfl) (by kernel_rfl) rfl hS (fun _ hw => r_pickFV (v := .bool _) rfl rfl) ?_
      have hX3 := hX2.trans hD
      have hD3 := hD2.ext hD
      refine A_take (i := 15) rfl (by kernel_rfl) (by kernel_rfl) (by kernel_rfl) rfl hS (fun _ hw => r_moveV (v := .bool _) rfl) ?_
      refine A_takeG (i := 16) rfl (by kernel_rfl) (by kernel_rfl) (by kernel_rfl) rfl hS rfl rfl rfl rfl (fun _ hw => r_moveV (v := .pointer _) rfl) ?_
      refine A_takeG (i := 18) rfl (by kernel_rfl) (by kernel_rfl) (by kernel_rfl) rfl hS rfl rfl rfl rfl (fun _ hw => r_moveV (v := .int .i64 er) rfl) ?_
      refine A_takeG (i := 19) rfl (by kernel_rfl) (by kernel_rfl) (by kernel_rfl) rfl hS rfl rfl rfl rfl (fun _ hw => r_neq rfl rfl) ?_
      refine A_ready1 (i := 17) (by kernel_rfl) ?_
      refine O_callG rfl rfl rfl rfl rfl rfl (r_call Try.func22 Try.nm22 rfl) (dead_da hD3) ?_
      rintro v w4 ⟨rfl, hE4⟩
      replace hS := trivial
      refine ⟨hS, ?_⟩
      have hX4 := hX3.trans hE4
      have hD4 := hD3.ext hE4
      have hdd : (Value.bool D2.dead) = .bool (decide (D2.dead = true)) := by simp
      rw [hdd]
      refine A_takeG (i := 20) rfl (by kernel_rfl) (by kernel_rfl) (by kernel_rfl) rfl hS rfl rfl rfl rfl (fun _ hw => r_neqP rfl rfl Try.underlying4) ?_
      refine A_take (i := 21) rfl (by kernel_rfl) (by kernel_rfl) (by kernel_rfl) rfl hS (fun _ hw => r_pickFV (v := .bool _) rfl rfl) ?_
      refine A_false (i := 22) rfl (by kernel_rfl) (by kernel_rfl) (by kernel_rfl) rfl hS (fun _ _ => r_moveV (v := .bool (decide _)) rfl) (fun h => h (by rw [p4, not_congr her0.symm])) ?_
      refine A_takeG (i := 23) rfl (by kernel_rfl) (by kernel_rfl) (by kernel_rfl) rfl hS rfl rfl rfl rfl (fun _ hw => r_moveV (v := .pointer _) rfl) ?_
      refine A_takeG (i := 25) rfl (by kernel_rfl) (by kernel_rfl) (by kernel_rfl) rfl hS rfl rfl rfl rfl (fun _ hw => r_moveV (v := .slice _ _ _) rfl) ?_
      refine A_takeG (i := 26) rfl (by kernel_rfl) (by kernel_rfl) (by kernel_rfl) rfl hS rfl rfl rfl rfl (fun _ hw => r_moveV (v := .int _ _) rfl) ?_
      refine A_takeG (i := 27) rfl (by kernel_rfl) (by kernel_rfl) (by kernel_rfl) rfl hS rfl rfl rfl rfl (fun _ hw => r_moveV (v := .slice _ _ _) rfl) ?_
      refine A_takeG (i := 28) rfl (by kernel_rfl) (by kernel_rfl) (by kernel_rfl) rfl hS rfl rfl rfl rfl (fun _ hw => r_len_slice rfl Try.underlying23) ?_
      refine A_takeG (i := 29) rfl (by kernel_rfl) (by kernel_rfl) (by kernel_rfl) rfl hS rfl rfl rfl rfl (fun _ hw => (show _ = Result.ok (Next.value (.int .i64 ((min k b.length : Nat) : Int))) _ from by rw [show ((min k b.length : Nat) : Int) = min (k : Int) (b.length : Int) by omega]; exact r_min2 rfl rfl)) ?_
      refine A_takeG (i := 30) rfl (by kernel_rfl) (by kernel_rfl) (by kernel_rfl) rfl hS rfl rfl rfl rfl (fun _ hw => r_sliceHi (j := min k b.length) rfl rfl Try.underlying23 Try.sz5 (by omega)) ?_
      refine A_ready1 (i := 24) (by kernel_rfl) ?_
      refine O_callG rfl rfl rfl rfl rfl rfl (r_call Try.func14 Try.nm14 rfl) (read_da hD4 hw2 (by omega) 0) ?_
      rintro v w5 ⟨A5, c5, rfl, hE5, hR5⟩
      replace hS := trivial
      refine ⟨hS, ?_⟩
      have hX5 := hX4.trans hE5
      have hD5 := hD4.ext hE5
      have hml : (b.take (min k b.length)).length = min k b.length := by simp
      have SS := same_spec A5 c5 _ A c (b.take (min k b.length)) w5 hR5 (((hA.ext hX5) : Ty.byte.Row w5 (old w5) A b).take (min k b.length))
      rw [hml] at SS
      refine A_ready1 (i := 31) (by kernel_rfl) ?_
      refine O_callG rfl rfl rfl rfl rfl rfl (r_call Try.func16 Try.nm16 rfl) (SS) ?_
      rintro v w6 ⟨rfl, hE6⟩
      replace hS := trivial
      refine ⟨hS, ?_⟩
      have hX6 := hX5.trans hE6
      have hD6 := hD5.ext hE6
      refine A_takeG (i := 32) rfl (by kernel_rfl) (by kernel_rfl) (by kernel_rfl) rfl hS rfl rfl rfl rfl (fun _ hw => r_notP rfl) ?_
      refine A_take (i := 33) rfl (by kernel_rfl) (by kernel_rfl) (by kernel_rfl) rfl hS (fun _ hw => r_pickFV (v := .bool _) rfl rfl) ?_
      refine A_done (by kernel_rfl) ?_
      refine W_ifp rfl (fun ht57 => ?_) (fun ht57 => ?_)
      · refine absurd ?_ ht57
        rw [p2]
        by_cases hkl : b.length ≤ k
        · rw [List.take_of_length_le hkl, List.take_of_length_le (by omega)]
        · rw [show min k b.length = k by omega]
      · refine W_skip ?_
        refine W_seq ?_
        refine W_seq ?_
        refine W_region ?_
        refine op rfl (r_moveV (v := .int _ _) rfl) ?_
        refine op rfl (r_neq rfl rfl) ?_
        refine WL_nil ?_
        refine W_ifp rfl (fun ht59 => ?_) (fun ht59 => ?_)
        · have hdead : D2.dead = true := p4.2 (fun q => ht59 (her0.2 q))
          obtain ⟨d1, d2, d3, d4, d5⟩ := dead_op hdead p1
          refine W_seq ?_
          refine W_region ?_
          refine op rfl (r_moveV (v := .pointer _) rfl) ?_
          refine opCv rfl (r_call Try.func12 Try.nm12 rfl) (append_da hD6 hw2 (by omega) 0 none 0 [] (by simp) (F := fun _ ↦ False) (fun x hx ↦ hx.elim) Ty.Row.nil) ?_
          rintro v w7 ⟨rfl, hD7, hB7⟩
          rw [d2] at hD7
          rw [d1]
          have hX7 : Ext W w7 := Below.trans hX6 hB7
          refine op rfl (r_eql rfl rfl) ?_
          refine op_true rfl (r_moveV (v := .bool (decide _)) rfl) (rfl) ?_
          refine opG_yes rfl rfl rfl rfl rfl (r_moveV (v := .pointer _) rfl) ?_
          refine opGCv_yes rfl rfl rfl rfl rfl (r_call Try.func13 Try.nm13 rfl) (sync_da hD7 hw2 (by omega) 0) ?_
          rintro v w8 ⟨rfl, hD8, hB8⟩
          rw [d3] at hD8
          rw [d3]
          have hX8 : Ext W w8 := Below.trans hX7 hB8
          refine opG_yes rfl rfl rfl rfl rfl (r_eql rfl rfl) ?_
          refine op rfl (r_pickTV (v := .bool _) rfl rfl) ?_
          refine op_true rfl (r_moveV (v := .bool (decide _)) rfl) (rfl) ?_
          refine opG_yes rfl rfl rfl rfl rfl (r_moveV (v := .pointer _) rfl) ?_
          refine opGCv_yes rfl rfl rfl rfl rfl (r_call Try.func19 Try.nm19 rfl) (cut_da hD8 hw2 (by omega) 0 0) ?_
          rintro v w9 ⟨rfl, hD9, hB9⟩
          have hD9' : DA p W.heap.size w9 (D2.cut 0 0).1 := hD9
          rw [d4] at hD9'
          have e9 : ((D2, (10 : Int)).1.cut 0 0).2 = 10 := by show (D2.cut 0 0).2 = 10; rw [d4]
          rw [e9]
          have hX9 : Ext W w9 := Below.trans hX8 hB9
          refine opG_yes rfl rfl rfl rfl rfl (r_eql rfl rfl) ?_
          refine op rfl (r_pickTV (v := .bool _) rfl rfl) ?_
          refine op_true rfl (r_moveV (v := .bool (decide _)) rfl) (rfl) ?_
          refine opG_yes rfl rfl rfl rfl rfl (r_moveV (v := .pointer _) rfl) ?_
          refine opGCv_yes rfl rfl rfl rfl rfl (r_call Try.func13 Try.nm13 rfl) (sync_da (D := D2) hD9' hw2 (by omega) 1) ?_
          rintro v w10 ⟨rfl, hD10, hB10⟩
          rw [d5]
          have hX10 : Ext W w10 := Below.trans hX9 hB10
          refine opG_yes rfl rfl rfl rfl rfl (r_eql rfl rfl) ?_
          refine op rfl (r_pickTV (v := .bool _) rfl rfl) ?_
          refine op_true rfl (r_moveV (v := .bool (decide _)) rfl) (rfl) ?_
          refine opGCv_yes rfl rfl rfl rfl rfl (r_call Try.func10 Try.nm10 rfl) (known_spec _) ?_
          rintro v w11 ⟨rfl, hE11⟩
          refine op rfl (r_pickTV (v := .bool _) rfl rfl) ?_
          refine op rfl (r_assignV (v := .bool _) rfl) ?_
          refine WL_nil ?_
          refine W_ret (finX_ret ?_)
          refine fin1 ?_
          first
            | exact ⟨_, rfl, rfl, hX10.trans hE11⟩
            | exact ⟨_, rfl, rfl, hX12.trans hE13⟩
        · have hle : b.length ≤ k := her0.1 (Classical.byContradiction ht59)
          obtain ⟨pa, pl, pn⟩ := p5 hle
          obtain ⟨q1, q2, q3, q4⟩ := power_law2 pa p1 pl pn
          have hw3 := hw2.sync 0
          have hw4 := hw3.restart 0
          generalize hg3 : (D2.sync 0).1 = D3 at q1 q2 q3 q4 hw3 hw4
          generalize hg4 : D3.restart 0 = D4 at q2 q3 q4 hw4
          refine W_skip ?_
          refine W_seq ?_
          refine W_region ?_
          refine op rfl (r_moveV (v := .pointer _) rfl) ?_
          refine opCv rfl (r_call Try.func13 Try.nm13 rfl) (sync_da hD6 hw2 (by omega) 0) ?_
          rintro v w7 ⟨rfl, hD7, hB7⟩
          rw [hg3] at hD7
          rw [q1]
          have hX7 : Ext W w7 := Below.trans hX6 hB7
          refine op rfl (r_assignV (v := .int _ _) rfl) ?_
          refine WL_nil ?_
          refine W_seq ?_
          refine W_region ?_
          refine op rfl (r_moveV (v := .pointer _) rfl) ?_
          refine opCv rfl (r_call Try.func15 Try.nm15 rfl) (restart_da hD7 hw3 (by omega) 0) ?_
          rintro v w8 ⟨hD8, hB8⟩
          rw [hg4] at hD8
          have hX8 : Ext W w8 := Below.trans hX7 hB8
          refine WL_nil ?_
          refine W_seq ?_
          refine W_region ?_
          refine op rfl (r_moveV (v := .slice _ _ _) rfl) ?_
          refine op rfl (r_assignV (v := .slice _ _ _) rfl) ?_
          refine WL_nil ?_
          refine W_cut [9, 86, 87, 88, 89] (fun e' w' => ∃ A9 c9 l9, e' 9 = .slice A9 (List.length l9) c9 ∧ l9 = (if k - b.length = 0 then [] else b) ∧ Ext W w' ∧ DA p W.heap.size w' D4 ∧ Ty.byte.Row w' (old w') A9 l9) ?_ ?_
          · refine W_seq ?_
            refine W_region ?_
            refine op rfl (r_moveV (v := .int _ _) rfl) ?_
            refine op rfl (r_moveV (v := .slice _ _ _) rfl) ?_
            refine op rfl (r_len_slice rfl Try.underlying23) ?_
            refine op rfl (r_eql rfl rfl) ?_
            refine WL_nil ?_
            refine W_ifp rfl (fun ht89 => ?_) (fun ht89 => ?_)
            · refine W_region ?_
              refine op rfl (r_assignV (v := .slice _ _ _) rfl) ?_
              refine WL_nil ?_
              refine ⟨?_, by repeat (first | with_reducible exact Out.refl _ _ | with_reducible exact Out.mix | refine Out.put rfl ?_ | refine Out.mixin rfl ?_ | exact Out.refl _ _ | exact Out.mix)⟩
              first | exact ⟨none, 0, [], rfl, by rw [if_pos (by omega)], hX8, hD8, Ty.Row.nil⟩ | exact ⟨A, c, b, rfl, by rw [if_neg (by omega)], hX8, hD8, hA.ext hX8⟩
            · refine W_skip ?_
              refine ⟨?_, by repeat (first | with_reducible exact Out.refl _ _ | with_reducible exact Out.mix | refine Out.put rfl ?_ | refine Out.mixin rfl ?_ | exact Out.refl _ _ | exact Out.mix)⟩
              first | exact ⟨none, 0, [], rfl, by rw [if_pos (by omega)], hX8, hD8, Ty.Row.nil⟩ | exact ⟨A, c, b, rfl, by rw [if_neg (by omega)], hX8, hD8, hA.ext hX8⟩
          rintro gift89 w' hJ
          obtain ⟨A9, c9, l9, h9, hl9, hX8', hD8', hR9⟩ := hJ
          clear hX8 hD8
          have hX8 := hX8'
          have hD8 := hD8'
          clear hX8' hD8'
          refine W_set (i := 9) h9 ?_
          refine W_seq ?_
          refine W_region ?_
          refine op rfl (r_moveV (v := .int _ _) rfl) ?_
          refine op rfl (r_eql rfl rfl) ?_
          refine op rfl (r_moveV (v := .int _ _) rfl) ?_
          refine op rfl (r_moveV (v := .slice _ _ _) rfl) ?_
          refine op rfl (r_len_slice rfl Try.underlying23) ?_
          refine op rfl (r_gtr rfl rfl) ?_
          refine op rfl (r_eqlP rfl rfl Try.underlying4) ?_
          refine op_true rfl (r_moveV (v := .bool (decide _)) rfl) (by split <;> omega) ?_
          refine opG_yes rfl rfl rfl rfl rfl (r_moveV (v := .pointer _) rfl) ?_
          refine opGCv_yes rfl rfl rfl rfl rfl (r_call Try.func14 Try.nm14 rfl) (read_da hD8 hw4 (by omega) 0) ?_
          rintro v w9 ⟨A10, c10, rfl, hE9, hR10⟩
          have hX9 := hX8.trans hE9
          have hD9 := hD8.ext hE9
          refine opG_yes rfl rfl rfl rfl rfl (r_moveV (v := .slice _ _ _) rfl) ?_
          refine opGCv_yes rfl rfl rfl rfl rfl (r_call Try.func16 Try.nm16 rfl) (same_spec A10 c10 _ A9 c9 l9 _ hR10 (hR9.ext hE9)) ?_
          rintro v w10 ⟨rfl, hE10⟩
          have hX10 := hX9.trans hE10
          have hD10 := hD9.ext hE10
          refine op rfl (r_pickTV (v := .bool _) rfl rfl) ?_
          refine op_true rfl (r_moveV (v := .bool (decide _)) rfl) (by rw [q2, hl9]) ?_
          refine opG_yes rfl rfl rfl rfl rfl (r_moveV (v := .pointer _) rfl) ?_
          refine opGCv_yes rfl rfl rfl rfl rfl (r_call Try.func22 Try.nm22 rfl) (dead_da hD10) ?_
          rintro v w11 ⟨rfl, hE11⟩
          have hX11 := hX10.trans hE11
          have hD11 := hD10.ext hE11
          rw [q3]
          refine opG_yes rfl rfl rfl rfl rfl (r_notP (p := False) rfl) ?_
          refine op rfl (r_pickTV (v := .bool _) rfl rfl) ?_
          refine op_true rfl (r_moveV (v := .bool (decide _)) rfl) (fun h => h) ?_
          refine opG_yes rfl rfl rfl rfl rfl (r_moveV (v := .pointer _) rfl) ?_
          refine opGCv_yes rfl rfl rfl rfl rfl (r_call Try.func13 Try.nm13 rfl) (sync_da hD11 hw4 (by omega) 0) ?_
          rintro v w12 ⟨rfl, hD12, hB12⟩
          rw [q4]
          have hX12 : Ext W w12 := Below.trans hX11 hB12
          refine opG_yes rfl rfl rfl rfl rfl (r_eql rfl rfl) ?_
          refine op rfl (r_pickTV (v := .bool _) rfl rfl) ?_
          refine op_true rfl (r_moveV (v := .bool (decide _)) rfl) (rfl) ?_
          refine opGCv_yes rfl rfl rfl rfl rfl (r_call Try.func10 Try.nm10 rfl) (known_spec _) ?_
          rintro v w13 ⟨rfl, hE13⟩
          refine op rfl (r_pickTV (v := .bool _) rfl rfl) ?_
          refine op rfl (r_assignV (v := .bool _) rfl) ?_
          refine WL_nil ?_
          refine W_ret (finX_ret ?_)
          refine fin1 ?_
          first
            | exact ⟨_, rfl, rfl, hX10.trans hE11⟩
            | exact ⟨_, rfl, rfl, hX12.trans hE13⟩
end Go.Proofs.Ytfgffaphpedimaa
