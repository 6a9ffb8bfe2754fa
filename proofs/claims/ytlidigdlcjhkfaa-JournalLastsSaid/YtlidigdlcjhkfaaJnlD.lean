/-
  Journals, plain: what is there when power was lost.
-/
import Derived.Test.YtlidigdlcjhkfaaJnlC
namespace Go.Proofs.Ytlidigdlcjhkfaa
open Go Go.Eng
set_option linter.unusedVariables false
set_option linter.unusedSimpArgs false

theorem next_stable {b : List UInt8} (h : (Frame.next b).2 ≠ 0) (r : List UInt8) : Frame.next (b.take (Frame.next b).2 ++ r) = Frame.next b := by
  have hd := Frame.next_def b
  unfold Frame.next at h
  split at h
  · simp at h
  · rename_i h8
    split at h
    · simp at h
    · rename_i hn
      split at h
      · rename_i hc
        have e : Frame.next b = ((b.drop 8).take (Frame.get (b.take 4)), 8 + Frame.get (b.take 4)) := by
          unfold Frame.next; rw [if_neg h8, if_neg hn, if_pos hc]
        rw [e]
        have hf := (hd h8 hn).2 hc
        have hl : ((b.drop 8).take (Frame.get (b.take 4))).length = Frame.get (b.take 4) := by simp; omega
        show Frame.next (b.take (8 + Frame.get (b.take 4)) ++ r) = _
        rw [← hf, Frame.next_frame _ _ (by rw [hl]; omega), hl]
      · simp at h
theorem numd_stable {b : List UInt8} (h : (numd b).2.2 = true) (r : List UInt8) : Frame.next (b.take (Frame.next b).2 ++ r) = Frame.next b ∧ numd (b.take (Frame.next b).2 ++ r) = numd b := by
  have hn : (Frame.next b).2 ≠ 0 := fun q => by unfold numd at h; rw [if_pos (Or.inl q)] at h; cases h
  have e := next_stable hn r
  refine ⟨e, ?_⟩
  unfold numd
  rw [e]
/-- What counts of some bytes counts with others behind, too. -/
theorem recs_reapp (s : Nat) (r : List UInt8) : ∀ (k : Nat) (b : List UInt8), b.length ≤ k → Recs (b.take (Recs b s).2 ++ r) s = ((Recs b s).1 ++ (Recs r s).1, (Recs b s).2 + (Recs r s).2) := by
  intro k
  induction k with
  | zero =>
    intro b hb
    have : Recs b s = ([], 0) := Recs_none (rok_short s (by omega))
    rw [this]; simp
  | succ k ih =>
    intro b hb
    by_cases h : Rok b s
    · have hn := (rok_next h).1
      have h8 := (Frame.next_body b hn).2.1
      have hle := Frame.next_le b
      obtain ⟨e1, e2⟩ := numd_stable h.1 (((b.drop (Frame.next b).2).take (Recs (b.drop (Frame.next b).2) s).2) ++ r)
      have hsp : b.take (Recs b s).2 ++ r = b.take (Frame.next b).2 ++ ((b.drop (Frame.next b).2).take (Recs (b.drop (Frame.next b).2) s).2 ++ r) := by
        rw [Recs_some h]
        simp only
        rw [List.take_add, List.append_assoc]
      rw [hsp, Recs_some (by unfold Rok; rw [e2]; exact h), e1, e2]
      have hd : (b.take (Frame.next b).2 ++ ((b.drop (Frame.next b).2).take (Recs (b.drop (Frame.next b).2) s).2 ++ r)).drop (Frame.next b).2 = (b.drop (Frame.next b).2).take (Recs (b.drop (Frame.next b).2) s).2 ++ r := by
        have hl : (b.take (Frame.next b).2).length = (Frame.next b).2 := by simp; omega
        rw [List.drop_append_of_le_length (by omega), List.drop_of_length_le (by omega), List.nil_append]
      rw [hd, ih (b.drop (Frame.next b).2) (by simp; omega), Recs_some h]
      simp only [List.cons_append]
      refine Prod.ext rfl ?_
      simp only; omega
    · rw [Recs_none h]; simp
theorem recs_again (b : List UInt8) (s : Nat) (r : List UInt8) : Recs (b.take (Recs b s).2 ++ r) s = ((Recs b s).1 ++ (Recs r s).1, (Recs b s).2 + (Recs r s).2) := recs_reapp s r b.length b (Nat.le_refl _)
theorem numd_false {b : List UInt8} (h : (numd b).2.2 = false) : numd b = (0, [], false) := by
  unfold numd at *
  split
  · rfl
  · rename_i q; rw [if_neg q] at h; cases h
/-! the slots -/
structure Sel (s : Nat) (st : List UInt8) (a o : List UInt8) : Prop where
  a : (s = 0 ∧ numd a = (0, [], false) ∧ st = []) ∨ numd a = (s, st, true)
  o : (numd o).2.2 = true → (numd o).1 < s
theorem Sel.pick {s : Nat} {st a o : List UInt8} (h : Sel s st a o) : chos (numd a) (numd o) = (s, st) ∧ chos (numd o) (numd a) = (s, st) := by
  rcases h.a with ⟨rfl, ha, rfl⟩ | ha
  · have ho : numd o = (0, [], false) := numd_false (by
      cases q : (numd o).2.2 with
      | false => rfl
      | true => have := h.o q; omega)
    rw [ha, ho]
    exact ⟨rfl, rfl⟩
  · rw [ha]
    unfold chos
    refine ⟨?_, ?_⟩
    · rw [if_neg]
      rintro ⟨q1, q2⟩
      have := h.o q1
      rcases q2 with q2 | q2
      · cases q2
      · simp only at q2; omega
    · rw [if_pos]
      refine ⟨rfl, ?_⟩
      cases q : (numd o).2.2 with
      | false => exact Or.inl rfl
      | true => exact Or.inr (h.o q)
/-- The slot that counts, the other one, the log. -/
def pos (s : Nat) (A O C : Ar) : Nat → Ar := fun i => if i = 2 then C else if i = s % 2 then A else O
theorem pos_sl (s : Nat) (A O C : Ar) : pos s A O C (sl s) = O := by
  unfold pos sl; rw [if_neg (by omega), if_neg (by omega)]
theorem pos_2 (s : Nat) (A O C : Ar) : pos s A O C 2 = C := if_pos rfl
theorem up_sl (s : Nat) (A O C y : Ar) : ∀ i, i < 3 → up (pos s A O C) (sl s) y i = pos s A y C i := by
  intro i hi
  unfold up pos sl
  rcases three hi with rfl | rfl | rfl <;> rcases Nat.mod_two_eq_zero_or_one s with h | h <;> simp [h] <;> omega
theorem up_log (s : Nat) (A O C y : Ar) : ∀ i, i < 3 → up (pos s A O C) 2 y i = pos s A O y i := by
  intro i hi
  unfold up pos
  rcases three hi with rfl | rfl | rfl <;> simp
theorem pos_swap (s : Nat) (A O C : Ar) : ∀ i, i < 3 → pos s A O C i = pos (s + 1) O A C i := by
  intro i hi
  unfold pos
  rcases three hi with rfl | rfl | rfl <;> rcases Nat.mod_two_eq_zero_or_one s with h | h <;> simp [h] <;> omega
theorem tot_pos (s : Nat) (A O C : Ar) : tot (pos s A O C) = A.now.length + O.now.length + C.now.length := by
  unfold tot pos
  rcases Nat.mod_two_eq_zero_or_one s with h | h <;> simp [h] <;> omega
theorem pos_map (s : Nat) (A O C : Ar) (f : Ar → Ar) : (fun i => f (pos s A O C i)) = pos s (f A) (f O) (f C) := by
  funext i; unfold pos; split
  · rfl
  · split <;> rfl
theorem JP.sel {D : Dk} {r s : Nat} {A O C : Ar} {st : List UInt8} (h : JP D r (pos s A O C)) (hs : Sel s st A.now O.now) : D.seqOf = s ∧ D.stateOf = st := by
  obtain ⟨p1, p2⟩ := hs.pick
  rw [h.seqOf, h.stateOf]
  rcases Nat.mod_two_eq_zero_or_one s with q | q
  · have e0 : pos s A O C 0 = A := by unfold pos; rw [if_neg (by omega), if_pos (by omega)]
    have e1 : pos s A O C 1 = O := by unfold pos; rw [if_neg (by omega), if_neg (by omega)]
    rw [e0, e1, p1]; exact ⟨rfl, rfl⟩
  · have e0 : pos s A O C 0 = O := by unfold pos; rw [if_neg (by omega), if_neg (by omega)]
    have e1 : pos s A O C 1 = A := by unfold pos; rw [if_neg (by omega), if_pos (by omega)]
    rw [e0, e1, p2]; exact ⟨rfl, rfl⟩
/-! the log -/
theorem recs_prefix {s : Nat} (hs : s < 2 ^ 64) : ∀ (l : List (List UInt8)) (k : Nat), (∀ x ∈ l, x.length ≤ 60000) → ∃ m, m ≤ l.length ∧ (Recs ((jd s l).take k) s).1 = l.take m ∧ ∀ q, q ≤ l.length → (jd s (l.take q)).length ≤ k → q ≤ m
  | [], k, _ => ⟨0, Nat.le_refl _, by simp [jd, Recs_none (rok_nil s)], fun q hq _ => hq⟩
  | x :: l, k, h => by
    have hx := h x (by simp)
    by_cases hk : k < 16 + x.length
    · refine ⟨0, Nat.zero_le _, ?_, fun q hq hle => ?_⟩
      · rw [jd_cons, Recs_none (rok_cut s s x (jd s l) k hx hk)]; rfl
      · cases q with
        | zero => exact Nat.le_refl _
        | succ q =>
          rw [List.take_succ_cons, jd_cons, List.length_append, rec1_len] at hle
          omega
    · obtain ⟨m, h1, h2, h3⟩ := recs_prefix hs l (k - (16 + x.length)) (fun y hy => h y (by simp [hy]))
      have hsp : (jd s (x :: l)).take k = jd s [x] ++ (jd s l).take (k - (16 + x.length)) := by
        rw [jd_cons, jd_one, List.take_append, rec1_len, List.take_of_length_le (by rw [rec1_len]; omega)]
      refine ⟨m + 1, by simp only [List.length_cons]; omega, ?_, fun q hq hle => ?_⟩
      · rw [hsp, recs_jd hs [x] _ (fun y hy => by have : y = x := by simpa using hy
                                                  subst this; exact hx), h2]
        simp
      · cases q with
        | zero => omega
        | succ q =>
          rw [List.take_succ_cons, jd_cons, List.length_append, rec1_len] at hle
          have := h3 q (by simpa using hq) (by omega)
          omega
theorem recs_other {s t : Nat} (hs : s < 2 ^ 64) (hne : s ≠ t) (l : List (List UInt8)) (k : Nat) (h : ∀ x ∈ l, x.length ≤ 60000) : Recs ((jd s l).take k) t = ([], 0) := by
  cases l with
  | nil => simp [jd, Recs_none (rok_nil t)]
  | cons x l =>
    have hx := h x (by simp)
    by_cases hk : k < 16 + x.length
    · rw [jd_cons, Recs_none (rok_cut s t x (jd s l) k hx hk)]
    · have hsp : (jd s (x :: l)).take k = rec1 s x ++ (jd s l).take (k - (16 + x.length)) := by
        rw [jd_cons, List.take_append, rec1_len, List.take_of_length_le (by rw [rec1_len]; omega)]
      rw [hsp]
      refine Recs_none fun q => ?_
      have := q.2
      rw [numd_rec1 s x _ hs hx] at this
      exact hne this
theorem jruns_grow : ∀ (m : List UInt8) (y : List UInt8), runs (m.map St.grow) y = y ++ m
  | [], y => by simp [runs]
  | c :: m, y => by
    show runs (m.map St.grow) (St.run (.grow c) y) = _
    rw [jruns_grow m]
    simp [St.run]
theorem back_now (x : Ar) (keep : Int) : (x.back keep).now = runs (x.pend.take keep.toNat) x.lasts := rfl
theorem back_grow {x : Ar} {m : List UInt8} (h : x.pend = m.map St.grow) (keep : Int) : (x.back keep).now = x.lasts ++ m.take keep.toNat := by
  rw [back_now, h, ← List.map_take, jruns_grow]
theorem back_still {x : Ar} (h : x.pend = []) (keep : Int) : (x.back keep).now = x.lasts := by
  rw [back_now, h]; simp [runs]
/-- Bytes that are pending behind a cut. -/
theorem back_new {x : Ar} {m : List UInt8} (h : x.pend = St.cut 0 :: m.map St.grow) (keep : Int) : (x.back keep).now = x.lasts ∨ ∃ j, (x.back keep).now = m.take j ∧ keep.toNat = j + 1 := by
  rw [back_now, h]
  cases hk : keep.toNat with
  | zero => exact Or.inl (by simp [runs])
  | succ j =>
    refine Or.inr ⟨j, ?_, rfl⟩
    rw [List.take_succ_cons, ← List.map_take]
    show runs _ (St.run (.cut 0) x.lasts) = _
    rw [jruns_grow]
    simp [St.run]
/-! what is asked -/
/-- That state is there, and so many of those records, or more. -/
def okL (E : Dk) (st : List UInt8) (rs : List (List UInt8)) (synced : Nat) : Prop :=
  E.stateOf = st ∧ synced ≤ E.recsOf.1.length ∧ E.recsOf.1.length ≤ rs.length ∧ E.recsOf.1 = rs.take E.recsOf.1.length
structure Inv (D : Dk) (r s : Nat) (st : List UInt8) (rs : List (List UInt8)) (synced : Nat) (A O C : Ar) : Prop where
  al : Al D r (pos s A O C)
  al1 : A.lasts = A.now
  ap : A.pend = []
  ol : O.lasts = O.now
  op : O.pend = []
  sel : Sel s st A.now O.now
  cn : C.now = jd s rs
  cl : C.lasts = jd s (rs.take synced)
  cp : C.pend = (jd s (rs.drop synced)).map St.grow
  sy : synced ≤ rs.length
/-- The old state, some of its records. -/
structure Old (D : Dk) (r s : Nat) (st : List UInt8) (rs : List (List UInt8)) (synced : Nat) (keep : Int) (A O C : Ar) : Prop where
  de : De D r (pos s A O C)
  sel : Sel s st (A.back keep).now (O.back keep).now
  log : ∃ k, (C.back keep).now = (jd s rs).take k ∧ (jd s (rs.take synced)).length ≤ k
theorem Old.okL {D : Dk} {r s : Nat} {st : List UInt8} {rs : List (List UInt8)} {synced : Nat} {keep : Int} {A O C : Ar} (h : Old D r s st rs synced keep A O C) (hs : s < 2 ^ 64) (hy : synced ≤ rs.length) (hr : ∀ x ∈ rs, x.length ≤ 60000) : okL (D.restart keep) st rs synced := by
  have hj := h.de.restart keep
  rw [pos_map s A O C (fun x => x.back keep)] at hj
  obtain ⟨e1, e2⟩ := hj.sel h.sel
  obtain ⟨k, e3, e4⟩ := h.log
  obtain ⟨m, m1, m2, m3⟩ := recs_prefix hs rs k hr
  have e5 : (D.restart keep).recsOf.1 = rs.take m := by
    rw [hj.recsOf, e1, pos_2, e3, m2]
  have e6 : (D.restart keep).recsOf.1.length = m := by rw [e5, List.length_take, Nat.min_eq_left m1]
  refine ⟨e2, ?_, ?_, ?_⟩
  · rw [e6]; exact m3 synced hy e4
  · rw [e6]; exact m1
  · rw [e6]; exact e5
/-- A new state, and no records. -/
theorem new_okL {D : Dk} {r s : Nat} {st : List UInt8} {keep : Int} {A O C : Ar} (hd : De D r (pos (s + 1) A O C)) (hsel : Sel (s + 1) st (A.back keep).now (O.back keep).now) {rs : List (List UInt8)} (hl : ∃ k, (C.back keep).now = (jd s rs).take k) (hs : s < 2 ^ 64) (hr : ∀ x ∈ rs, x.length ≤ 60000) : okL (D.restart keep) st [] 0 := by
  have hj := hd.restart keep
  rw [pos_map (s + 1) A O C (fun x => x.back keep)] at hj
  obtain ⟨e1, e2⟩ := hj.sel hsel
  obtain ⟨k, e3⟩ := hl
  have e5 : (D.restart keep).recsOf = ([], 0) := by
    rw [hj.recsOf, e1, pos_2, e3]
    exact recs_other hs (by omega) rs k hr
  refine ⟨e2, Nat.zero_le _, ?_, ?_⟩
  · rw [e5]; exact Nat.le_refl _
  · rw [e5]; rfl
/-- Where nothing is under way in the slots. -/
theorem Inv.sel_back {D : Dk} {r s : Nat} {st : List UInt8} {rs : List (List UInt8)} {synced : Nat} {A O C : Ar} (h : Inv D r s st rs synced A O C) (keep : Int) : Sel s st (A.back keep).now (O.back keep).now := by
  rw [back_still h.ap, back_still h.op, h.al1, h.ol]; exact h.sel
theorem jd_split (s : Nat) (rs : List (List UInt8)) (k : Nat) : jd s (rs.take k) ++ jd s (rs.drop k) = jd s rs := by rw [← jd_app, List.take_append_drop]
theorem prefix_more (s : Nat) (rs : List (List UInt8)) (q j : Nat) : jd s (rs.take q) ++ (jd s (rs.drop q)).take j = (jd s rs).take ((jd s (rs.take q)).length + j) := by
  rw [← jd_split s rs q, List.take_length_add_append]
theorem Inv.log_back {D : Dk} {r s : Nat} {st : List UInt8} {rs : List (List UInt8)} {synced : Nat} {A O C : Ar} (h : Inv D r s st rs synced A O C) (keep : Int) : (C.back keep).now = (jd s rs).take ((jd s (rs.take synced)).length + keep.toNat) := by
  rw [back_grow h.cp, h.cl, prefix_more]
theorem Inv.old {D D' : Dk} {r s : Nat} {st : List UInt8} {rs : List (List UInt8)} {synced : Nat} {A O C : Ar} (h : Inv D r s st rs synced A O C) (hd : De D' r (pos s A O C)) (keep : Int) : Old D' r s st rs synced keep A O C :=
  ⟨hd, h.sel_back keep, _, h.log_back keep, by omega⟩
/-- A record that comes. -/
theorem Inv.append {D : Dk} {r s : Nat} {st : List UInt8} {rs : List (List UInt8)} {synced : Nat} {A O C : Ar} (h : Inv D r s st rs synced A O C) (x : List UInt8) (hf : A.now.length + O.now.length + C.now.length + (16 + x.length) ≤ r) :
    ((D.append 2 (rec1 s x)).2 = 0 ∧ ∃ C', Inv (D.append 2 (rec1 s x)).1 r s st (rs ++ [x]) synced A O C' ∧ C'.now = C.now ++ rec1 s x) ∨ ((D.append 2 (rec1 s x)).2 = 10 ∧ ∀ keep, ∃ C', Old (D.append 2 (rec1 s x)).1 r s st (rs ++ [x]) synced keep A O C') := by
  have hsy := h.sy
  have htk : (rs ++ [x]).take synced = rs.take synced := List.take_append_of_le_length hsy
  have hdr : (rs ++ [x]).drop synced = rs.drop synced ++ [x] := List.drop_append_of_le_length hsy
  rcases h.al.append (a := 2) (by omega) (rec1 s x) (by rw [tot_pos, rec1_len]; exact hf) with ⟨e, h1⟩ | ⟨e, m, hm, h1⟩
  · rw [pos_2] at h1
    refine Or.inl ⟨e, _, ⟨h1.cast (up_log _ _ _ _ _), h.al1, h.ap, h.ol, h.op, h.sel, ?_, ?_, ?_, ?_⟩, rfl⟩
    · show C.now ++ _ = _; rw [h.cn, jd_snoc]
    · show C.lasts = _; rw [htk, h.cl]
    · show C.pend ++ _ = _; rw [hdr, jd_snoc, List.map_append, h.cp]
    · simp only [List.length_append, List.length_singleton]; omega
  · rw [pos_2] at h1
    refine Or.inr ⟨e, fun keep => ⟨_, h1.cast (up_log _ _ _ _ _), h.sel_back keep, ?_⟩⟩
    have hp : C.pend ++ ((rec1 s x).take m).map St.grow = ((jd s (rs.drop synced) ++ rec1 s x).take ((jd s (rs.drop synced)).length + m)).map St.grow := by
      rw [h.cp, ← List.map_append, List.take_length_add_append]
    rw [back_grow (x := ⟨_, _, _⟩) hp]
    refine ⟨(jd s ((rs ++ [x]).take synced)).length + min keep.toNat ((jd s (rs.drop synced)).length + m), ?_, by omega⟩
    show C.lasts ++ _ = _
    rw [List.take_take, h.cl, ← prefix_more, hdr, jd_snoc, htk]
theorem Inv.sync {D : Dk} {r s : Nat} {st : List UInt8} {rs : List (List UInt8)} {synced : Nat} {A O C : Ar} (h : Inv D r s st rs synced A O C) :
    ((D.sync 2).2 = 0 ∧ ∃ C', Inv (D.sync 2).1 r s st rs rs.length A O C' ∧ C'.now = C.now) ∨ ((D.sync 2).2 = 10 ∧ ∀ keep, ∃ C', Old (D.sync 2).1 r s st rs synced keep A O C') := by
  rcases h.al.sync (a := 2) (by omega) with ⟨e, h1⟩ | ⟨e, h1⟩
  · rw [pos_2] at h1
    refine Or.inl ⟨e, _, ⟨h1.cast (up_log _ _ _ _ _), h.al1, h.ap, h.ol, h.op, h.sel, h.cn, ?_, ?_, Nat.le_refl _⟩, rfl⟩
    · show C.now = _; rw [List.take_length, h.cn]
    · rw [List.drop_length]; rfl
  · exact Or.inr ⟨e, fun keep => ⟨C, h.old h1 keep⟩⟩
theorem numd_sl {D : Dk} {r s : Nat} {st : List UInt8} {rs : List (List UInt8)} {synced : Nat} {A O C : Ar} (h : Inv D r s st rs synced A O C) : (numd A.now).2.2 = true → (numd A.now).1 < s + 1 := by
  intro q
  rcases h.sel.a with ⟨_, e, _⟩ | e
  · rw [e] at q; cases q
  · rw [e]; exact Nat.lt_succ_self s
/-- What a new state comes to. -/
theorem Inv.ckpt {D : Dk} {r s : Nat} {st : List UInt8} {rs : List (List UInt8)} {synced : Nat} {A O C : Ar} (h : Inv D r s st rs synced A O C) (x : List UInt8) (hx : x.length ≤ 60000) (hs : s + 1 < 2 ^ 64) (hr : ∀ y ∈ rs, y.length ≤ 60000) (hf : A.now.length + C.now.length + (16 + x.length) ≤ r) :
    ((∀ i, i ≤ 5 → (D.stg s x i).2 = 0) ∧ ∃ C', Inv (D.stg s x 5).1 r (s + 1) x [] 0 ⟨rec1 (s + 1) x, rec1 (s + 1) x, []⟩ A C' ∧ C'.now = []) ∨
    (∃ i, i < 5 ∧ (∀ k, k ≤ i → (D.stg s x k).2 = 0) ∧ (D.stg s x (i + 1)).2 = 10 ∧ ∀ keep, okL ((D.stg s x (i + 1)).1.restart keep) st rs synced ∨ okL ((D.stg s x (i + 1)).1.restart keep) x [] 0) := by
  have hz : ∀ k, k ≤ 0 → (D.stg s x k).2 = 0 := fun k hk => by obtain rfl : k = 0 := by omega
                                                               rfl
  have hrec := rec1_len (s + 1) x
  have nr : numd (rec1 (s + 1) x) = (s + 1, x, true) := by have := numd_rec1 (s + 1) x [] hs hx; rwa [List.append_nil] at this
  have cut : ∀ j, j < 16 + x.length → numd ((rec1 (s + 1) x).take j) = (0, [], false) := fun j hj => by have := numd_cut (s + 1) x [] j hx hj; rwa [List.append_nil] at this
  -- the slot is cut
  rcases h.al.cut (sl_lt s) with ⟨z1, h1⟩ | ⟨z1, h1⟩
  rotate_left
  · exact Or.inr ⟨0, by omega, hz, z1, fun keep => Or.inl ((h.old h1 keep).okL (by omega) h.sy hr)⟩
  replace h1 := h1.cast (up_sl _ _ _ _ _)
  rw [pos_sl] at h1
  have hz1 : ∀ k, k ≤ 1 → (D.stg s x k).2 = 0 := fun k hk => by
    rcases (by omega : k = 0 ∨ k = 1) with rfl | rfl
    · rfl
    · exact z1
  -- the new state
  have hpo : O.pend ++ [St.cut 0] = [St.cut 0] := by rw [h.op]; rfl
  rw [hpo] at h1
  have oldSel : ∀ (m j : Nat), j < 16 + x.length → Sel s st A.now ((rec1 (s + 1) x).take j) := fun m j hj => ⟨h.sel.a, fun q => by rw [cut j hj] at q; cases q⟩
  rcases h1.append (sl_lt s) (rec1 (s + 1) x) (by rw [tot_pos, hrec]; show A.now.length + 0 + C.now.length + _ ≤ r; omega) with ⟨z2, h2⟩ | ⟨z2, m, hm, h2⟩
  rotate_left
  · refine Or.inr ⟨1, by omega, hz1, z2, fun keep => Or.inl ?_⟩
    replace h2 := h2.cast (up_sl _ _ _ _ _)
    rw [pos_sl] at h2
    replace h2 : De _ r (pos s A ⟨(rec1 (s + 1) x).take m, O.lasts, St.cut 0 :: ((rec1 (s + 1) x).take m).map St.grow⟩ C) := h2
    refine Old.okL (A := A) (C := C) (s := s) (r := r) ⟨h2, ?_, _, h.log_back keep, by omega⟩ (by omega) h.sy hr
    rw [back_still h.ap, h.al1]
    rcases back_new (x := ⟨(rec1 (s + 1) x).take m, O.lasts, St.cut 0 :: ((rec1 (s + 1) x).take m).map St.grow⟩) (m := (rec1 (s + 1) x).take m) (by rfl) keep with e | ⟨j, e, _⟩
    · rw [e]
      show Sel s st A.now O.lasts
      rw [h.ol]; exact h.sel
    · rw [e, List.take_take]
      exact oldSel m _ (by omega)
  replace h2 := h2.cast (up_sl _ _ _ _ _)
  rw [pos_sl] at h2
  replace h2 : Al _ r (pos s A ⟨rec1 (s + 1) x, O.lasts, St.cut 0 :: (rec1 (s + 1) x).map St.grow⟩ C) := h2
  have hz2 : ∀ k, k ≤ 2 → (D.stg s x k).2 = 0 := fun k hk => by
    rcases (by omega : k ≤ 1 ∨ k = 2) with q | rfl
    · exact hz1 k q
    · exact z2
  -- it lasts
  rcases h2.sync (sl_lt s) with ⟨z3, h3⟩ | ⟨z3, h3⟩
  rotate_left
  · refine Or.inr ⟨2, by omega, hz2, z3, fun keep => ?_⟩
    rcases back_new (x := ⟨rec1 (s + 1) x, O.lasts, St.cut 0 :: (rec1 (s + 1) x).map St.grow⟩) (m := rec1 (s + 1) x) (by rfl) keep with e | ⟨j, e, _⟩
    · refine Or.inl (Old.okL (A := A) (C := C) (s := s) (r := r) ⟨h3, ?_, _, h.log_back keep, by omega⟩ (by omega) h.sy hr)
      rw [back_still h.ap, h.al1, e]
      show Sel s st A.now O.lasts
      rw [h.ol]; exact h.sel
    · by_cases hj : j < 16 + x.length
      · refine Or.inl (Old.okL (A := A) (C := C) (s := s) (r := r) ⟨h3, ?_, _, h.log_back keep, by omega⟩ (by omega) h.sy hr)
        rw [back_still h.ap, h.al1, e]
        exact oldSel 0 j hj
      · refine Or.inr (new_okL (s := s) (r := r) (C := C) (rs := rs) (h3.cast (pos_swap _ _ _ _)) ?_ ⟨_, h.log_back keep⟩ (by omega) hr)
        rw [back_still h.ap, h.al1, e, List.take_of_length_le (by omega)]
        exact ⟨Or.inr nr, numd_sl h⟩
  replace h3 := h3.cast (up_sl _ _ _ _ _)
  rw [pos_sl] at h3
  replace h3 := h3.cast (pos_swap _ _ _ _)
  have hz3 : ∀ k, k ≤ 3 → (D.stg s x k).2 = 0 := fun k hk => by
    rcases (by omega : k ≤ 2 ∨ k = 3) with q | rfl
    · exact hz2 k q
    · exact z3
  have hsel : Sel (s + 1) x (rec1 (s + 1) x) A.now := ⟨Or.inr nr, numd_sl h⟩
  have newSel : ∀ keep, Sel (s + 1) x ((⟨rec1 (s + 1) x, rec1 (s + 1) x, []⟩ : Ar).back keep).now (A.back keep).now := fun keep => by
    rw [back_still (x := ⟨_, _, _⟩) rfl, back_still h.ap, h.al1]; exact hsel
  -- the log is cut
  rcases h3.cut (a := 2) (by omega) with ⟨z4, h4⟩ | ⟨z4, h4⟩
  rotate_left
  · exact Or.inr ⟨3, by omega, hz3, z4, fun keep => Or.inr (new_okL h4 (newSel keep) ⟨_, h.log_back keep⟩ (by omega) hr)⟩
  replace h4 := h4.cast (up_log _ _ _ _ _)
  rw [pos_2] at h4
  have hz4 : ∀ k, k ≤ 4 → (D.stg s x k).2 = 0 := fun k hk => by
    rcases (by omega : k ≤ 3 ∨ k = 4) with q | rfl
    · exact hz3 k q
    · exact z4
  rcases h4.sync (a := 2) (by omega) with ⟨z5, h5⟩ | ⟨z5, h5⟩
  rotate_left
  · refine Or.inr ⟨4, by omega, hz4, z5, fun keep => Or.inr (new_okL h5 (newSel keep) ?_ (by omega) hr)⟩
    have hb : ((⟨[], C.lasts, C.pend ++ [St.cut 0]⟩ : Ar).back keep).now = (C.back keep).now ∨ ((⟨[], C.lasts, C.pend ++ [St.cut 0]⟩ : Ar).back keep).now = [] := by
      rw [back_now, back_now]
      by_cases hk : keep.toNat ≤ C.pend.length
      · left
        show runs ((C.pend ++ [St.cut 0]).take keep.toNat) C.lasts = _
        rw [List.take_append_of_le_length hk]
      · right
        show runs ((C.pend ++ [St.cut 0]).take keep.toNat) C.lasts = _
        rw [List.take_of_length_le (by simp; omega), runs_snoc]
        simp [St.run]
    rcases hb with e | e
    · exact ⟨_, e.trans (h.log_back keep)⟩
    · exact ⟨0, by rw [e]; rfl⟩
  replace h5 := h5.cast (up_log _ _ _ _ _)
  rw [pos_2] at h5
  refine Or.inl ⟨fun k hk => ?_, _, ⟨h5, rfl, rfl, h.al1, h.ap, hsel, rfl, rfl, rfl, Nat.le_refl _⟩, rfl⟩
  rcases (by omega : k ≤ 4 ∨ k = 5) with q | rfl
  · exact hz4 k q
  · exact z5
/-! and it goes on from there -/
def moreB : List UInt8 := [109, 111, 114, 101]
theorem goes_on {E : Dk} {r : Nat} {x : Nat → Ar} (h : JP E r x) (hl : ∀ i, i < 2 → (x i).lasts = (x i).now) (hf : tot x + 20 ≤ r) :
    let F := E.opened
    let G := (F.append 2 (rec1 E.seqOf moreB)).1
    let K := (G.sync 2).1
    Live F ∧ F.n = 3 ∧ (F.append 2 (rec1 E.seqOf moreB)).2 = 0 ∧ (G.sync 2).2 = 0 ∧ Live (K.restart 0) ∧ (K.restart 0).n = 3 ∧ (K.restart 0).stateOf = E.stateOf ∧ (K.restart 0).recsOf.1 = E.recsOf.1 ++ [moreB] := by
  intro F G K
  obtain ⟨y, j1, hy, _⟩ := h.opened
  have hle := (recs_le (x 2).now E.seqOf).1
  rw [← h.recsOf] at hle
  have hyl : y.now.length ≤ (x 2).now.length := by rw [hy, List.length_take]; exact Nat.min_le_right _ _
  have ht : tot (up x 2 y) ≤ tot x := by unfold tot; simp only [up]; simp; omega
  have hm : moreB.length = 4 := rfl
  obtain ⟨e2, j2⟩ := j1.append (a := 2) (by omega) (rec1 E.seqOf moreB) (by rw [rec1_len, hm]; omega)
  obtain ⟨e3, j3⟩ := j2.sync (a := 2) (by omega)
  replace e2 : (F.append 2 (rec1 E.seqOf moreB)).2 = 0 := e2
  replace e3 : (G.sync 2).2 = 0 := e3
  have j3' : JP K r (up x 2 ⟨y.now ++ rec1 E.seqOf moreB, y.now ++ rec1 E.seqOf moreB, []⟩) := JP.cast j3 (fun i hi => by
    rcases three hi with rfl | rfl | rfl <;> rfl)
  have j4 : JP (K.restart 0) r (fun i => (up x 2 ⟨y.now ++ rec1 E.seqOf moreB, y.now ++ rec1 E.seqOf moreB, []⟩ i).back 0) := JP.restart j3'.n j3'.room j3'.ar 0
  have b0 : ∀ i, i < 2 → ((up x 2 ⟨y.now ++ rec1 E.seqOf moreB, y.now ++ rec1 E.seqOf moreB, []⟩ i).back 0).now = (x i).now := fun i hi => by
    rw [up_ne (by omega), back0]; exact hl i hi
  have hseq : (K.restart 0).seqOf = E.seqOf := by
    rw [j4.seqOf, b0 0 (by omega), b0 1 (by omega), ← h.seqOf]
  have hst : (K.restart 0).stateOf = E.stateOf := by
    rw [j4.stateOf, b0 0 (by omega), b0 1 (by omega), ← h.stateOf]
  refine ⟨j1.live, j1.n, e2, e3, j4.live, j4.n, hst, ?_⟩
  have hsl : E.seqOf < 2 ^ 64 := chos_lt _ _
  have hr : Recs (rec1 E.seqOf moreB) E.seqOf = ([moreB], (jd E.seqOf [moreB]).length) := by
    rw [← jd_one]; exact recs_all hsl (by simp [moreB])
  rw [j4.recsOf, hseq, up_same, back0]
  show (Recs (y.now ++ _) _).1 = _
  rw [hy, h.recsOf, recs_again, hr]
/-! where power is not counted -/
theorem Inv.jp {D : Dk} {r s : Nat} {st : List UInt8} {rs : List (List UInt8)} {synced : Nat} {A O C : Ar} (h : Inv D r s st rs synced A O C) (hl : Live D) : JP D r (pos s A O C) := ⟨hl, h.al.n, h.al.room, h.al.ar⟩
theorem Inv.new (r : Nat) (hr : r ≤ 4194304) : Inv (Dk.new 3 r) r 0 [] [] 0 e3 e3 e3 :=
  ⟨(JP.new r hr).al.cast (fun i hi => by rcases three hi with rfl | rfl | rfl <;> rfl), rfl, rfl, rfl, rfl, ⟨Or.inl ⟨rfl, numd_nil, rfl⟩, fun q => by rw [numd_nil] at q; cases q⟩, rfl, rfl, rfl, Nat.le_refl _⟩
theorem Inv.open {D : Dk} {r s : Nat} {st : List UInt8} {rs : List (List UInt8)} {synced : Nat} {A O C : Ar} (h : Inv D r s st rs synced A O C) (hl : Live D) (hs : s < 2 ^ 64) (hr : ∀ y ∈ rs, y.length ≤ 60000) : D.seqOf = s ∧ D.stateOf = st ∧ D.recsOf = (rs, C.now.length) ∧ D.opened = D := by
  have hj := h.jp hl
  obtain ⟨e1, e2⟩ := hj.sel h.sel
  have e3 : D.recsOf = (rs, C.now.length) := by rw [hj.recsOf, e1, pos_2, h.cn, recs_all hs hr]
  have e4 : D.read 2 = C.now := by have := hj.read (a := 2) (by omega); rw [pos_2] at this; exact this
  refine ⟨e1, e2, e3, ?_⟩
  unfold Dk.opened
  rw [e3, e4, if_neg (by simp)]
theorem Inv.ckpt_full {D : Dk} {r s : Nat} {st : List UInt8} {rs : List (List UInt8)} {synced : Nat} {A O C : Ar} (h : Inv D r s st rs synced A O C) (hl : Live D) (x : List UInt8) (hx : x.length ≤ 60000) (hs : s < 2 ^ 64) (hr : ∀ y ∈ rs, y.length ≤ 60000) (hO : O.now = []) (hf : ¬ A.now.length + C.now.length + (16 + x.length) ≤ r) :
    (∀ k, k ≤ 1 → (D.stg s x k).2 = 0) ∧ (D.stg s x 2).2 = 8 ∧ (D.stg s x 2).1.n = 3 ∧ ∀ keep, okL ((D.stg s x 2).1.restart keep) st rs synced := by
  have hrec := rec1_len (s + 1) x
  rcases h.al.cut (sl_lt s) with ⟨z1, h1⟩ | ⟨z1, _⟩
  rotate_left
  · exact absurd z1 (live_cutL hl _ _).2
  replace h1 := h1.cast (up_sl _ _ _ _ _)
  rw [pos_sl] at h1
  have l1 : Live (D.stg s x 1).1 := (live_stg hl s x 1 (by omega)).1
  have j1 : JP (D.stg s x 1).1 r (pos s A ⟨[], O.lasts, O.pend ++ [St.cut 0]⟩ C) := ⟨l1, h1.n, h1.room, h1.ar⟩
  have e2 : D.stg s x 2 = ((D.stg s x 1).1, 8) := j1.full (sl_lt s) (rec1 (s + 1) x) (by rw [tot_pos, hrec]; show ¬ A.now.length + 0 + C.now.length + _ ≤ r; omega)
  rw [e2]
  refine ⟨fun k hk => ?_, rfl, h1.n, fun keep => ?_⟩
  · rcases (by omega : k = 0 ∨ k = 1) with rfl | rfl
    · rfl
    · exact z1
  · refine Old.okL (A := A) (C := C) (s := s) (r := r) ⟨h1.de, ?_, _, h.log_back keep, by omega⟩ hs h.sy hr
    rw [back_still h.ap, h.al1]
    have e : ((⟨[], O.lasts, O.pend ++ [St.cut 0]⟩ : Ar).back keep).now = O.now := by
      rw [h.op]
      rcases back_new (x := ⟨[], O.lasts, [] ++ [St.cut 0]⟩) (m := []) (by rfl) keep with q | ⟨j, q, _⟩
      · rw [q]; exact h.ol
      · rw [q, hO]; simp
    rw [e]; exact h.sel
theorem pos_act (s : Nat) (A O C : Ar) : pos s A O C (s % 2) = A := by unfold pos; rw [if_neg (by omega), if_pos rfl]
theorem Inv.read2 {D : Dk} {r s : Nat} {st : List UInt8} {rs : List (List UInt8)} {synced : Nat} {A O C : Ar} (h : Inv D r s st rs synced A O C) (hl : Live D) : D.read 2 = C.now := by
  have := (h.jp hl).read (a := 2) (by omega); rw [pos_2] at this; exact this
theorem Inv.readA {D : Dk} {r s : Nat} {st : List UInt8} {rs : List (List UInt8)} {synced : Nat} {A O C : Ar} (h : Inv D r s st rs synced A O C) (hl : Live D) : D.read ((s % 2 : Nat) : Int) = A.now := by
  have := (h.jp hl).read (a := s % 2) (by omega); rw [pos_act] at this; exact this
theorem fl_succ {l : List (List UInt8)} {i : Nat} (h : i < l.length) : (l.take (i + 1)).flatten.length = (l.take i).flatten.length + l[i].length := by
  rw [List.take_succ_eq_append_getElem h, List.flatten_append, List.length_append]; simp
theorem row_old {α : Type} {T : Ty α} {w : World} {F : Nat → Prop} {A : Option Addr} {l : List α} (h : T.Row w F A l) (hF : ∀ b, F b → b < w.heap.size) : T.Row w (old w) A l := h.keep (fun _ _ => rfl) hF
end Go.Proofs.Ytlidigdlcjhkfaa
