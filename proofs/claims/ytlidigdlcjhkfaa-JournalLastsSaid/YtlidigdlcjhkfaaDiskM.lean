/-
  A disk: plain, and how it lies in memory.
-/
import Derived.Test.YtlidigdlcjhkfaaFacts
import Derived.Test.YtlidigdlcjhkfaaDyn
namespace Go.Proofs.Ytlidigdlcjhkfaa
open Go Go.Eng Go.RowKit Go.Proofs
set_option linter.unusedVariables false
set_option linter.unusedSimpArgs false

inductive St where
  | grow (c : UInt8)
  | cut (n : Nat)
def St.run : St → List UInt8 → List UInt8
  | .grow c, b => b ++ [c]
  | .cut n, b => b.take n
def St.val : St → Value
  | .grow c => .iface 69 (.agg #[.int .u8 c.toNat])
  | .cut n => .iface 87 (.agg #[.int .i64 n])
def stT : Ty St := Ty.scalar St.val (fun _ => True) (fun x => by cases x <;> rfl)
theorem flat_st : Flat stT := fun h => h
structure Ar where
  now : List UInt8
  lasts : List UInt8
  pend : List St
structure Dk where
  n : Nat
  ar : Nat → Ar
  room : Nat
  armed : Bool
  power : Int
  dead : Bool
def Dk.upd (D : Dk) (a : Nat) (x : Ar) : Dk := { D with ar := fun i => if i = a then x else D.ar i }
def Dk.unit (D : Dk) : Dk × Bool := if D.armed = true ∧ D.power = 0 then ({ D with dead := true }, false) else ({ D with power := D.power - 1 }, true)
def Dk.put (D : Dk) (a : Nat) (s : St) : Dk := D.upd a { D.ar a with now := s.run (D.ar a).now, pend := (D.ar a).pend ++ [s] }
def sumTo : Nat → (Nat → Nat) → Nat
  | 0, _ => 0
  | n + 1, f => sumTo n f + f n
def Dk.used (D : Dk) : Nat := sumTo D.n fun i => (D.ar i).now.length
def Dk.there (D : Dk) (a : Int) : Prop := 0 ≤ a ∧ a < D.n
instance (D : Dk) (a : Int) : Decidable (D.there a) := by unfold Dk.there; exact inferInstance
def Dk.may (D : Dk) (a : Int) : Int := if D.there a then (if D.dead = true then 10 else 0) else 2
def Dk.grow (D : Dk) (a : Nat) : List UInt8 → Dk
  | [] => D
  | c :: l => if D.unit.2 = true then (D.unit.1.put a (.grow c)).grow a l else D.unit.1
def Dk.append (D : Dk) (a : Int) (b : List UInt8) : Dk × Int :=
  if D.may a ≠ 0 then (D, D.may a) else if D.used + b.length > D.room then (D, 8) else (D.grow a.toNat b, (D.grow a.toNat b).may a)
def Dk.cut (D : Dk) (a n : Int) : Dk × Int :=
  if D.may a ≠ 0 then (D, D.may a) else if n < 0 ∨ n > (D.ar a.toNat).now.length then (D, 2)
  else if D.unit.2 = true then (D.unit.1.put a.toNat (.cut n.toNat), (D.unit.1.put a.toNat (.cut n.toNat)).may a) else (D.unit.1, D.unit.1.may a)
def Dk.synced (D : Dk) (a : Nat) : Dk := D.upd a { D.ar a with lasts := (D.ar a).now, pend := [] }
def Dk.sync (D : Dk) (a : Int) : Dk × Int :=
  if D.may a ≠ 0 then (D, D.may a) else if D.unit.2 = true then (D.unit.1.synced a.toNat, (D.unit.1.synced a.toNat).may a) else (D.unit.1, D.unit.1.may a)
def Dk.arm (D : Dk) (n : Int) : Dk := if D.dead = true then D else { D with armed := true, power := max 0 (min n 1000000000) }
def runs (l : List St) (b : List UInt8) : List UInt8 := l.foldl (fun b s => s.run b) b
def Ar.back (x : Ar) (keep : Int) : Ar := ⟨runs (x.pend.take keep.toNat) x.lasts, runs (x.pend.take keep.toNat) x.lasts, []⟩
def Dk.restart (D : Dk) (keep : Int) : Dk := { D with ar := fun i => if i < D.n then (D.ar i).back keep else D.ar i, armed := false, dead := false }
def Dk.new (areas room : Int) : Dk := ⟨(max 0 (min areas 8)).toNat, fun _ => ⟨[], [], []⟩, (max 0 (min room 4194304)).toNat, false, 0, false⟩
def Dk.read (D : Dk) (a : Int) : List UInt8 := if D.there a then (D.ar a.toNat).now else []
def Dk.lasting (D : Dk) (a : Int) : List UInt8 := if D.there a then (D.ar a.toNat).lasts else []

/-! in memory -/
structure Hd where
  p : Nat
  g : Nat
  nv : Nat → Value
  lv : Nat → Value
  pv : Nat → Value
  cap : Nat
def Off (H : Hd) (n b : Nat) : Prop := b ≠ H.p ∧ b ≠ H.g ∧ ∀ i, i < n → (H.pv i).ownBlock ≠ some b
/-- None of what is read. -/
def Off2 (H : Hd) (n b : Nat) : Prop := ∀ i, i < n → (H.nv i).ownBlock ≠ some b ∧ (H.lv i).ownBlock ≠ some b
def OffK (H H' : Hd) (n m : Nat) : Prop := ∀ b, b < m → (Off H n b → Off H' n b) ∧ (Off2 H n b → Off2 H' n b)
theorem OffK.refl (H : Hd) (n m : Nat) : OffK H H n m := fun _ _ => ⟨id, id⟩
def Dk.cells (D : Dk) (g cap : Nat) : Array Value := #[.slice (some ⟨g, 0, none⟩) D.n cap, .int .i64 D.room, .bool D.armed, .int .i64 D.power, .bool D.dead]
structure DR (B : Nat) (w : World) (H : Hd) (D : Dk) : Prop where
  bp : Blk w H.p (D.cells H.g H.cap) 55
  bg : ∃ cs, Blk w H.g cs 75 ∧ cs.size = H.cap * 3 ∧ ∀ i, i < D.n → cs[i * 3]? = some (H.nv i) ∧ cs[i * 3 + 1]? = some (H.lv i) ∧ cs[i * 3 + 2]? = some (H.pv i)
  nv : ∀ i, i < D.n → Bs B 5 w (H.nv i) (D.ar i).now
  lv : ∀ i, i < D.n → Bs B 5 w (H.lv i) (D.ar i).lasts
  pv : ∀ i, i < D.n → Eng.Own stT w nobody B 77 (H.pv i) (D.ar i).pend
  lo : B ≤ H.p ∧ B ≤ H.g ∧ H.p ≠ H.g
  ne : ∀ i, i < D.n → ∀ b, ((H.nv i).ownBlock = some b ∨ (H.lv i).ownBlock = some b) → Off H D.n b
  np : ∀ i, i < D.n → ∀ b, (H.pv i).ownBlock = some b → b ≠ H.p ∧ b ≠ H.g ∧ ∀ j, j < D.n → j ≠ i → (H.pv j).ownBlock ≠ some b
  cap : D.n ≤ H.cap
/-- Whatever is off is as it was. -/
structure Upd (F : Nat → Prop) (w w' : World) : Prop where
  os : w'.os = w.os
  tape : w'.tape = w.tape
  output : w'.output = w.output
  size : w.heap.size ≤ w'.heap.size
  block : ∀ b, b < w.heap.size → F b → w'.heap[b]? = w.heap[b]?
theorem Upd.refl (F : Nat → Prop) (w : World) : Upd F w w := ⟨rfl, rfl, rfl, Nat.le_refl _, fun _ _ _ => rfl⟩
theorem Upd.trans {F G : Nat → Prop} {a b c : World} (h : Upd F a b) (k : Upd G b c) (hFG : ∀ x, x < a.heap.size → F x → G x) : Upd F a c :=
  ⟨k.os.trans h.os, k.tape.trans h.tape, k.output.trans h.output, Nat.le_trans h.size k.size, fun x hx hF => (k.block x (Nat.lt_of_lt_of_le hx h.size) (hFG x hx hF)).trans (h.block x hx hF)⟩
theorem Upd.of_ext {F : Nat → Prop} {w w' : World} (h : Ext w w') : Upd F w w' := ⟨h.os, h.tape, h.output, h.size, fun b hb _ => h.block b hb⟩
theorem Upd.of_chg {F : Nat → Prop} {w w' : World} {b : Nat} (h : Chg b w w') (hF : ∀ x, F x → x ≠ b) : Upd F w w' := ⟨h.os, h.tape, h.output, h.size, fun x hx hf => h.block x hx (hF x hf)⟩
theorem Upd.of_gro {F : Nat → Prop} {w w' : World} {r : Option Nat} (h : Gro r w w') (hF : ∀ x, F x → r ≠ some x) : Upd F w w' := ⟨h.os, h.tape, h.output, h.size, fun x hx hf => h.block x hx (hF x hf)⟩
theorem _root_.Go.Eng.Chg.trans' {b : Nat} {w w1 w2 : World} (h : Chg b w w1) (k : Chg b w1 w2) : Chg b w w2 :=
  ⟨k.os.trans h.os, k.tape.trans h.tape, k.output.trans h.output, Nat.le_trans h.size k.size, fun x hx hne => (k.block x (Nat.lt_of_lt_of_le hx h.size) hne).trans (h.block x hx hne)⟩
/-- What becomes of a disk. -/
def Post (B : Nat) (H : Hd) (D D' : Dk) (w w' : World) : Prop :=
  ∃ H' : Hd, (H'.p = H.p ∧ H'.g = H.g) ∧ DR B w' H' D' ∧ D'.n = D.n ∧ Upd (Off H D.n) w w' ∧ OffK H H' D.n w.heap.size
theorem Post.refl {B : Nat} {H : Hd} {D : Dk} {w : World} (h : DR B w H D) : Post B H D D w w := ⟨H, ⟨rfl, rfl⟩, h, rfl, Upd.refl _ _, OffK.refl _ _ _⟩
theorem Post.trans {B : Nat} {H H1 : Hd} {D D1 D2 : Dk} {w w1 w2 : World} (hp : H1.p = H.p ∧ H1.g = H.g) (hn : D1.n = D.n) (hU : Upd (Off H D.n) w w1) (hO : OffK H H1 D.n w.heap.size) (k : Post B H1 D1 D2 w1 w2) : Post B H D D2 w w2 := by
  obtain ⟨H2, h1, h2, h3, h4, h5⟩ := k
  rw [hn] at h4 h5
  exact ⟨H2, ⟨h1.1.trans hp.1, h1.2.trans hp.2⟩, h2, h3.trans hn, hU.trans h4 (fun x hx ho => (hO x hx).1 ho), fun b hb => ⟨fun ho => (h5 b (Nat.lt_of_lt_of_le hb hU.size)).1 ((hO b hb).1 ho), fun ho => (h5 b (Nat.lt_of_lt_of_le hb hU.size)).2 ((hO b hb).2 ho)⟩⟩
theorem Post.pre {B : Nat} {H : Hd} {D D' : Dk} {w w1 w2 : World} (he : Ext w w1) (k : Post B H D D' w1 w2) : Post B H D D' w w2 := Post.trans ⟨rfl, rfl⟩ rfl (Upd.of_ext he) (OffK.refl _ _ _) k
theorem own_one {α : Type} {T : Ty α} {w : World} {F : Nat → Prop} {B : Nat} {e : TypeId} {v : Value} {l : List α} (h : Eng.Own T w F B e v l) : v.oneCell' = true := by
  rcases h with ⟨rfl, _⟩ | ⟨g, cap, c, xs, rfl, _⟩ <;> rfl
section
variable {B : Nat} {w w' w'' : World} {H : Hd} {D : Dk}
theorem DR.off_lt (h : DR B w H D) {b : Nat} (hb : w.heap.size ≤ b) : Off H D.n b :=
  ⟨by have := Blk.lt h.bp; omega, by obtain ⟨cs, hc, _⟩ := h.bg; have := Blk.lt hc; omega, fun i hi q => by have := ((h.pv i hi).lt q).2; omega⟩
theorem DR.off_B (h : DR B w H D) {b : Nat} (hb : b < B) : Off H D.n b :=
  ⟨by have := h.lo; omega, by have := h.lo; omega, fun i hi q => by have := ((h.pv i hi).lt q).1; omega⟩
theorem own_at {α : Type} {T : Ty α} {e : TypeId} {v : Value} {l : List α} (h : Eng.Own T w nobody B e v l) (hb : ∀ g, v.ownBlock = some g → w'.heap[g]? = w.heap[g]?) : Eng.Own T w' nobody B e v l :=
  h.keep (fun _ q => q.elim) (fun _ q => q) hb
theorem DR.ext (h : DR B w H D) (he : Ext w w') : DR B w' H D := by
  obtain ⟨cs, h1, h2, h3⟩ := h.bg
  exact ⟨h.bp.ext he, ⟨cs, h1.ext he, h2, h3⟩, fun i hi => own_fext (h.nv i hi) he, fun i hi => own_fext (h.lv i hi) he, fun i hi => own_fext (h.pv i hi) he, h.lo, h.ne, h.np, h.cap⟩
/-- Blocks of others change alone. -/
theorem DR.keep (h : DR B w H D) (hp : w'.heap[H.p]? = w.heap[H.p]?) (hg : w'.heap[H.g]? = w.heap[H.g]?) (hb : ∀ i, i < D.n → ∀ b, ((H.nv i).ownBlock = some b ∨ (H.lv i).ownBlock = some b ∨ (H.pv i).ownBlock = some b) → w'.heap[b]? = w.heap[b]?) : DR B w' H D := by
  obtain ⟨cs, h1, h2, h3⟩ := h.bg
  refine ⟨by have := h.bp; unfold Blk at *; rw [hp]; exact this, ⟨cs, by unfold Blk at *; rw [hg]; exact h1, h2, h3⟩, fun i hi => own_at (h.nv i hi) (fun g q => hb i hi g (Or.inl q)), fun i hi => own_at (h.lv i hi) (fun g q => hb i hi g (Or.inr (Or.inl q))), fun i hi => own_at (h.pv i hi) (fun g q => hb i hi g (Or.inr (Or.inr q))), h.lo, h.ne, h.np, h.cap⟩
/-- A field of the disk itself. -/
theorem DR.setP (h : DR B w H D) {D' : Dk} (hn : D'.n = D.n) (ha : D'.ar = D.ar) (hc : Chg H.p w w') (hb : Blk w' H.p (D'.cells H.g H.cap) 55) : Post B H D D' w w' := by
  obtain ⟨cs, h1, h2, h3⟩ := h.bg
  refine ⟨H, ⟨rfl, rfl⟩, ⟨hb, ⟨cs, hc.blk h1 (fun q => h.lo.2.2 q.symm), h2, by rw [hn]; exact h3⟩, ?_, ?_, ?_, h.lo, by rw [hn]; exact h.ne, by rw [hn]; exact h.np, by rw [hn]; exact h.cap⟩, hn, Upd.of_chg hc (fun x hx => hx.1), OffK.refl _ _ _⟩
  · intro i hi
    rw [hn] at hi; rw [ha]
    exact own_at (h.nv i hi) (fun g q => hc.block g ((h.nv i hi).lt q).2 (h.ne i hi g (Or.inl q)).1)
  · intro i hi
    rw [hn] at hi; rw [ha]
    exact own_at (h.lv i hi) (fun g q => hc.block g ((h.lv i hi).lt q).2 (h.ne i hi g (Or.inr q)).1)
  · intro i hi
    rw [hn] at hi; rw [ha]
    exact own_at (h.pv i hi) (fun g q => hc.block g ((h.pv i hi).lt q).2 (h.np i hi g q).1)
def fset (f : Nat → Value) (a : Nat) (v : Value) : Nat → Value := fun i => if i = a then v else f i
theorem fset_same (f : Nat → Value) (a : Nat) (v : Value) : fset f a v a = v := if_pos rfl
theorem fset_ne {f : Nat → Value} {a i : Nat} {v : Value} (h : i ≠ a) : fset f a v i = f i := if_neg h
theorem upd_same (D : Dk) (a : Nat) (x : Ar) : (D.upd a x).ar a = x := if_pos rfl
theorem upd_ne {D : Dk} {a i : Nat} {x : Ar} (h : i ≠ a) : (D.upd a x).ar i = D.ar i := if_neg h
theorem set3 {cs : Array Value} {n a k i j : Nat} {v : Value} (hs : cs.size = n * 3) (hk : k < 3) (hj : j < 3) (ha : a < n) : (cs.setIfInBounds (a * 3 + k) v)[i * 3 + j]? = if i = a ∧ j = k then some v else cs[i * 3 + j]? := by
  rw [Array.getElem?_setIfInBounds]
  by_cases h : a * 3 + k = i * 3 + j
  · have h1 : i = a ∧ j = k := by omega
    rw [if_pos h, if_pos h1, if_pos (by omega)]
  · rw [if_neg h, if_neg (by omega)]
/-- What is read of an area. -/
theorem DR.setNow {w0 : World} (h0 : DR B w0 H D) (he : Ext w0 w) {a : Nat} (ha : a < D.n) {v : Value} {l : List UInt8} {cs : Array Value} (hcs : Blk w H.g cs 75) (hs : cs.size = H.cap * 3) (h3 : ∀ i, i < D.n → cs[i * 3]? = some (H.nv i) ∧ cs[i * 3 + 1]? = some (H.lv i) ∧ cs[i * 3 + 2]? = some (H.pv i))
    (hv : Bs B 5 w v l) (hv0 : ∀ b, v.ownBlock = some b → w0.heap.size ≤ b) (hc : Chg H.g w w') (hb : Blk w' H.g (cs.setIfInBounds (a * 3) v) 75) :
    Post B H D (D.upd a { D.ar a with now := l }) w0 w' := by
  have h := h0.ext he
  have hvo : ∀ b, v.ownBlock = some b → Off H D.n b := fun b q => h0.off_lt (hv0 b q)
  refine ⟨{ H with nv := fset H.nv a v }, ⟨rfl, rfl⟩, ⟨hc.blk h.bp h.lo.2.2, ⟨_, hb, by rw [Array.size_setIfInBounds]; exact hs, ?_⟩, ?_, ?_, ?_, h.lo, ?_, h.np, h.cap⟩, rfl, (Upd.of_ext he).trans (Upd.of_chg hc (fun x hx => hx.2.1)) (fun _ _ h => h), fun b hb => ⟨id, fun ho i hi => ⟨fun q => ?_, (ho i hi).2⟩⟩⟩
  · intro i hi
    have e0 := set3 (i := i) (j := 0) (k := 0) (v := v) hs (by omega) (by omega) (Nat.lt_of_lt_of_le ha h.cap)
    have e1 := set3 (i := i) (j := 1) (k := 0) (v := v) hs (by omega) (by omega) (Nat.lt_of_lt_of_le ha h.cap)
    have e2 := set3 (i := i) (j := 2) (k := 0) (v := v) hs (by omega) (by omega) (Nat.lt_of_lt_of_le ha h.cap)
    simp only [Nat.add_zero] at e0 e1 e2
    obtain ⟨q0, q1, q2⟩ := h3 i hi
    rw [e0, e1, e2]
    by_cases hia : i = a
    · subst hia; simp [fset_same, q1, q2]
    · simp [hia, fset_ne hia, q0, q1, q2]
  · intro i hi
    show Bs B _ w' (fset H.nv a v i) ((D.upd a _).ar i).now
    by_cases hia : i = a
    · subst hia
      rw [fset_same, upd_same]
      exact own_at hv (fun g q => hc.block g (hv.lt q).2 (hvo g q).2.1)
    · rw [fset_ne hia, upd_ne hia]
      exact own_at (h.nv i hi) (fun g q => hc.block g ((h.nv i hi).lt q).2 (h.ne i hi g (Or.inl q)).2.1)
  · intro i hi
    have e : ((D.upd a { D.ar a with now := l }).ar i).lasts = (D.ar i).lasts := by
      by_cases hia : i = a
      · subst hia; rw [upd_same]
      · rw [upd_ne hia]
    rw [e]
    exact own_at (h.lv i hi) (fun g q => hc.block g ((h.lv i hi).lt q).2 (h.ne i hi g (Or.inr q)).2.1)
  · intro i hi
    have e : ((D.upd a { D.ar a with now := l }).ar i).pend = (D.ar i).pend := by
      by_cases hia : i = a
      · subst hia; rw [upd_same]
      · rw [upd_ne hia]
    rw [e]
    exact own_at (h.pv i hi) (fun g q => hc.block g ((h.pv i hi).lt q).2 (h.np i hi g q).2.1)
  · intro i hi b hq
    by_cases hia : i = a
    · subst hia
      rcases hq with hq | hq
      · have hq' : v.ownBlock = some b := by simpa [fset_same] using hq
        exact hvo b hq'
      · exact h.ne i hi b (Or.inr hq)
    · exact h.ne i hi b (by simpa [fset_ne hia] using hq)
  · by_cases hia : i = a
    · subst hia
      have q' : v.ownBlock = some b := by simpa [fset_same] using q
      have := hv0 b q'
      omega
    · exact (ho i hi).1 (by simpa [fset_ne hia] using q)
/-- What lasts of an area. -/
theorem DR.setLastsX {w0 : World} (h0 : DR B w0 H D) (he : Ext w0 w) {a : Nat} (ha : a < D.n) {v : Value} {l : List UInt8} {cs : Array Value} (hcs : Blk w H.g cs 75) (hs : cs.size = H.cap * 3) (h3 : ∀ i, i < D.n → cs[i * 3]? = some (H.nv i) ∧ cs[i * 3 + 1]? = some (H.lv i) ∧ cs[i * 3 + 2]? = some (H.pv i))
    (hv : Bs B 5 w v l) (hv0 : ∀ b, v.ownBlock = some b → w0.heap.size ≤ b) (hc : Chg H.g w w') (hb : Blk w' H.g (cs.setIfInBounds (a * 3 + 1) v) 75) :
    DR B w' { H with lv := fset H.lv a v } (D.upd a { D.ar a with lasts := l }) ∧ Upd (Off H D.n) w0 w' ∧ OffK H { H with lv := fset H.lv a v } D.n w0.heap.size := by
  have h := h0.ext he
  have hvo : ∀ b, v.ownBlock = some b → Off H D.n b := fun b q => h0.off_lt (hv0 b q)
  refine ⟨⟨hc.blk h.bp h.lo.2.2, ⟨_, hb, by rw [Array.size_setIfInBounds]; exact hs, ?_⟩, ?_, ?_, ?_, h.lo, ?_, h.np, h.cap⟩, (Upd.of_ext he).trans (Upd.of_chg hc (fun x hx => hx.2.1)) (fun _ _ h => h), fun b hb => ⟨id, fun ho i hi => ⟨(ho i hi).1, fun q => ?_⟩⟩⟩
  · intro i hi
    have e0 := set3 (i := i) (j := 0) (k := 1) (v := v) hs (by omega) (by omega) (Nat.lt_of_lt_of_le ha h.cap)
    have e1 := set3 (i := i) (j := 1) (k := 1) (v := v) hs (by omega) (by omega) (Nat.lt_of_lt_of_le ha h.cap)
    have e2 := set3 (i := i) (j := 2) (k := 1) (v := v) hs (by omega) (by omega) (Nat.lt_of_lt_of_le ha h.cap)
    simp only [Nat.add_zero] at e0 e1 e2
    obtain ⟨q0, q1, q2⟩ := h3 i hi
    rw [e0, e1, e2]
    by_cases hia : i = a
    · subst hia; simp [fset_same, q0, q2]
    · simp [hia, fset_ne hia, q0, q1, q2]
  · intro i hi
    have e : ((D.upd a { D.ar a with lasts := l }).ar i).now = (D.ar i).now := by
      by_cases hia : i = a
      · subst hia; rw [upd_same]
      · rw [upd_ne hia]
    rw [e]
    exact own_at (h.nv i hi) (fun g q => hc.block g ((h.nv i hi).lt q).2 (h.ne i hi g (Or.inl q)).2.1)
  · intro i hi
    show Bs B _ w' (fset H.lv a v i) ((D.upd a _).ar i).lasts
    by_cases hia : i = a
    · subst hia
      rw [fset_same, upd_same]
      exact own_at hv (fun g q => hc.block g (hv.lt q).2 (hvo g q).2.1)
    · rw [fset_ne hia, upd_ne hia]
      exact own_at (h.lv i hi) (fun g q => hc.block g ((h.lv i hi).lt q).2 (h.ne i hi g (Or.inr q)).2.1)
  · intro i hi
    have e : ((D.upd a { D.ar a with lasts := l }).ar i).pend = (D.ar i).pend := by
      by_cases hia : i = a
      · subst hia; rw [upd_same]
      · rw [upd_ne hia]
    rw [e]
    exact own_at (h.pv i hi) (fun g q => hc.block g ((h.pv i hi).lt q).2 (h.np i hi g q).2.1)
  · intro i hi b hq
    by_cases hia : i = a
    · subst hia
      rcases hq with hq | hq
      · exact h.ne i hi b (Or.inl hq)
      · have hq' : v.ownBlock = some b := by simpa [fset_same] using hq
        exact hvo b hq'
    · exact h.ne i hi b (by simpa [fset_ne hia] using hq)
  · by_cases hia : i = a
    · subst hia
      have q' : v.ownBlock = some b := by simpa [fset_same] using q
      have := hv0 b q'
      omega
    · exact (ho i hi).2 (by simpa [fset_ne hia] using q)
theorem DR.setLasts {w0 : World} (h0 : DR B w0 H D) (he : Ext w0 w) {a : Nat} (ha : a < D.n) {v : Value} {l : List UInt8} {cs : Array Value} (hcs : Blk w H.g cs 75) (hs : cs.size = H.cap * 3) (h3 : ∀ i, i < D.n → cs[i * 3]? = some (H.nv i) ∧ cs[i * 3 + 1]? = some (H.lv i) ∧ cs[i * 3 + 2]? = some (H.pv i))
    (hv : Bs B 5 w v l) (hv0 : ∀ b, v.ownBlock = some b → w0.heap.size ≤ b) (hc : Chg H.g w w') (hb : Blk w' H.g (cs.setIfInBounds (a * 3 + 1) v) 75) :
    Post B H D (D.upd a { D.ar a with lasts := l }) w0 w' :=
  have q := h0.setLastsX he ha hcs hs h3 hv hv0 hc hb
  ⟨{ H with lv := fset H.lv a v }, ⟨rfl, rfl⟩, q.1, rfl, q.2.1, q.2.2⟩
/-- What is pending of an area: its block may have grown. -/
theorem DR.setPend (h : DR B w H D) {a : Nat} (ha : a < D.n) {v : Value} {l : List St} {cs : Array Value} (hcs : Blk w H.g cs 75) (hs : cs.size = H.cap * 3) (h3 : ∀ i, i < D.n → cs[i * 3]? = some (H.nv i) ∧ cs[i * 3 + 1]? = some (H.lv i) ∧ cs[i * 3 + 2]? = some (H.pv i))
    (hG : Gro (H.pv a).ownBlock w w') (hv : Eng.Own stT w' nobody B 77 v l) (hvo : v.ownBlock = none ∨ v.ownBlock = (H.pv a).ownBlock ∨ ∃ g, v.ownBlock = some g ∧ w.heap.size ≤ g) (hc : Chg H.g w' w'') (hb : Blk w'' H.g (cs.setIfInBounds (a * 3 + 2) v) 75) :
    Post B H D (D.upd a { D.ar a with pend := l }) w w'' := by
  have hoff : ∀ b, Off H D.n b → (H.pv a).ownBlock ≠ some b := fun b hb => hb.2.2 a ha
  have hgp : (H.pv a).ownBlock ≠ some H.g := fun q => (h.np a ha H.g q).2.1 rfl
  have hpp : (H.pv a).ownBlock ≠ some H.p := fun q => (h.np a ha H.p q).1 rfl
  have hlp := Blk.lt h.bp
  have hlg := Blk.lt hcs
  have hvb : ∀ b, v.ownBlock = some b → (H.pv a).ownBlock = some b ∨ w.heap.size ≤ b := fun b q => by
    rcases hvo with h1 | h1 | ⟨g, h1, h2⟩
    · rw [h1] at q; cases q
    · exact Or.inl (h1 ▸ q)
    · rw [h1] at q; cases q; exact Or.inr h2
  have hO : ∀ b, b < w.heap.size → Off H D.n b → Off { H with pv := fset H.pv a v } D.n b := fun b hb ho => ⟨ho.1, ho.2.1, fun i hi q => by
    by_cases hia : i = a
    · subst hia
      have q' : v.ownBlock = some b := by simpa [fset_same] using q
      rcases hvb b q' with h1 | h1
      · exact ho.2.2 i hi h1
      · omega
    · exact ho.2.2 i hi (by simpa [fset_ne hia] using q)⟩
  have keepB : ∀ b, b < w.heap.size → (H.pv a).ownBlock ≠ some b → b ≠ H.g → w''.heap[b]? = w.heap[b]? := fun b hb h1 h2 => by
    rw [hc.block b (Nat.lt_of_lt_of_le hb hG.size) h2, hG.block b hb h1]
  refine ⟨{ H with pv := fset H.pv a v }, ⟨rfl, rfl⟩, ⟨?_, ⟨_, hb, by rw [Array.size_setIfInBounds]; exact hs, ?_⟩, ?_, ?_, ?_, h.lo, ?_, ?_, h.cap⟩, rfl, (Upd.of_gro hG hoff).trans (G := fun x => x ≠ H.g) (Upd.of_chg hc (fun x hx => hx)) (fun x _ hx => hx.2.1), fun b hb => ⟨hO b hb, id⟩⟩
  · have := h.bp; unfold Blk at *; rw [keepB _ hlp hpp h.lo.2.2]; exact this
  · intro i hi
    have e0 := set3 (i := i) (j := 0) (k := 2) (v := v) hs (by omega) (by omega) (Nat.lt_of_lt_of_le ha h.cap)
    have e1 := set3 (i := i) (j := 1) (k := 2) (v := v) hs (by omega) (by omega) (Nat.lt_of_lt_of_le ha h.cap)
    have e2 := set3 (i := i) (j := 2) (k := 2) (v := v) hs (by omega) (by omega) (Nat.lt_of_lt_of_le ha h.cap)
    simp only [Nat.add_zero] at e0 e1 e2
    obtain ⟨q0, q1, q2⟩ := h3 i hi
    rw [e0, e1, e2]
    by_cases hia : i = a
    · subst hia; simp [fset_same, q0, q1]
    · simp [hia, fset_ne hia, q0, q1, q2]
  · intro i hi
    have e : ((D.upd a { D.ar a with pend := l }).ar i).now = (D.ar i).now := by
      by_cases hia : i = a
      · subst hia; rw [upd_same]
      · rw [upd_ne hia]
    rw [e]
    exact own_at (h.nv i hi) (fun g q => keepB g ((h.nv i hi).lt q).2 (hoff g (h.ne i hi g (Or.inl q))) (h.ne i hi g (Or.inl q)).2.1)
  · intro i hi
    have e : ((D.upd a { D.ar a with pend := l }).ar i).lasts = (D.ar i).lasts := by
      by_cases hia : i = a
      · subst hia; rw [upd_same]
      · rw [upd_ne hia]
    rw [e]
    exact own_at (h.lv i hi) (fun g q => keepB g ((h.lv i hi).lt q).2 (hoff g (h.ne i hi g (Or.inr q))) (h.ne i hi g (Or.inr q)).2.1)
  · intro i hi
    show Eng.Own stT w'' nobody B _ (fset H.pv a v i) ((D.upd a _).ar i).pend
    by_cases hia : i = a
    · subst hia
      rw [fset_same, upd_same]
      refine own_at hv (fun g q => hc.block g (hv.lt q).2 ?_)
      rcases hvb g q with h1 | h1
      · exact (h.np i hi g h1).2.1
      · omega
    · rw [fset_ne hia, upd_ne hia]
      exact own_at (h.pv i hi) (fun g q => keepB g ((h.pv i hi).lt q).2 (fun q' => (h.np a ha g q').2.2 i hi hia q) (h.np i hi g q).2.1)
  · intro i hi b hq
    have h1 := h.ne i hi b hq
    refine hO b ?_ h1
    rcases hq with hq | hq
    · exact ((h.nv i hi).lt hq).2
    · exact ((h.lv i hi).lt hq).2
  · intro i hi b hq
    by_cases hia : i = a
    · subst hia
      have q' : v.ownBlock = some b := by simpa [fset_same] using hq
      rcases hvb b q' with h1 | h1
      · obtain ⟨r1, r2, r3⟩ := h.np i hi b h1
        exact ⟨r1, r2, fun j hj hji => by show (fset H.pv i v j).ownBlock ≠ _; rw [fset_ne hji]; exact r3 j hj hji⟩
      · exact ⟨by show b ≠ H.p; omega, by show b ≠ H.g; omega, fun j hj hji => by
          show (fset H.pv i v j).ownBlock ≠ _
          rw [fset_ne hji]
          intro q2
          have := ((h.pv j hj).lt q2).2
          omega⟩
    · have hq' : (H.pv i).ownBlock = some b := by simpa [fset_ne hia] using hq
      obtain ⟨r1, r2, r3⟩ := h.np i hi b hq'
      refine ⟨r1, r2, fun j hj hji => ?_⟩
      show (fset H.pv a v j).ownBlock ≠ _
      by_cases hja : j = a
      · subst hja
        rw [fset_same]
        intro q2
        rcases hvb b q2 with h1 | h1
        · exact r3 j hj hji h1
        · have := ((h.pv i hi).lt hq').2
          omega
      · rw [fset_ne hja]; exact r3 j hj hji
end
end Go.Proofs.Ytlidigdlcjhkfaa
