/-
  The chapter's own disk: plain, and how it lies in memory.
-/
import Derived.Test.YtlidigdlcjhkfaaFacts
import Derived.Test.YtlidigdlcjhkfaaDiskS
import Derived.Test.YtlidigdlcjhkfaaStruct
namespace Go.Proofs.Ytlidigdlcjhkfaa
open Go Go.Eng Go.RowKit Go.Proofs
set_option linter.unusedVariables false
set_option linter.unusedSimpArgs false

def St.c : St → Int
  | .grow c => c.toNat
  | .cut _ => 0
def St.n : St → Int
  | .grow _ => -1
  | .cut n => n
abbrev St.c2 (s : St) : List Value := [.int .u8 s.c, .int .i64 s.n]
abbrev St.rv (s : St) : Value := .agg #[.int .u8 s.c, .int .i64 s.n]
/-- A step, as the chapter has it. -/
def stR : Ty St where
  sz := 2
  R := fun _ _ x cs => cs = x.c2
  len := by rintro _ _ x _ rfl; rfl
  one := by
    rintro _ _ x _ rfl u hu
    simp only [St.c2, List.mem_cons, List.not_mem_nil, or_false] at hu
    rcases hu with rfl | rfl <;> rfl
  keep := fun h _ _ => h
theorem flat_stR : Flat stR := fun h => h
/-- A slice in memory. -/
def SL {α : Type} (T : Ty α) (w : World) (F : Nat → Prop) (v : Value) (l : List α) : Prop := ∃ A c, v = .slice A l.length c ∧ l.length ≤ c ∧ T.Row w F A l
theorem SL.keep {α : Type} {T : Ty α} {w w' : World} {F F' : Nat → Prop} {v : Value} {l : List α} (h : SL T w F v l) (hs : Same F w w') (hF : ∀ b, F b → F' b) : SL T w' F' v l := by
  obtain ⟨A, c, h1, h2, h3⟩ := h
  exact ⟨A, c, h1, h2, h3.keep hs hF⟩
theorem SL.one {α : Type} {T : Ty α} {w : World} {F : Nat → Prop} {v : Value} {l : List α} (h : SL T w F v l) : v.oneCell' = true := by
  obtain ⟨A, c, rfl, _⟩ := h; rfl
theorem SL.ext {α : Type} {T : Ty α} {w w' : World} {v : Value} {l : List α} (h : SL T w (old w) v l) (he : Ext w w') : SL T w' (old w') v l :=
  h.keep he.same fun b hb => Nat.lt_of_lt_of_le hb he.size
/-- An area. -/
def arR : Ty Ar where
  sz := 3
  R := fun w F x cs => ∃ a b c, cs = [a, b, c] ∧ SL Ty.byte w F a x.now ∧ SL Ty.byte w F b x.lasts ∧ SL stR w F c x.pend
  len := by rintro _ _ _ _ ⟨a, b, c, rfl, _⟩; rfl
  one := by
    rintro _ _ x _ ⟨a, b, c, rfl, h1, h2, h3⟩ u hu
    simp only [List.mem_cons, List.not_mem_nil, or_false] at hu
    rcases hu with rfl | rfl | rfl
    · exact h1.one
    · exact h2.one
    · exact h3.one
  keep := fun ⟨a, b, c, h0, h1, h2, h3⟩ hs hF => ⟨a, b, c, h0, h1.keep hs hF, h2.keep hs hF, h3.keep hs hF⟩
def Dk.l (D : Dk) : List Ar := (List.range D.n).map D.ar
theorem l_len (D : Dk) : D.l.length = D.n := by simp [Dk.l]
theorem l_at (D : Dk) {i : Nat} (h : i < D.l.length) : D.l[i] = D.ar i := by simp [Dk.l]
theorem l_set (D : Dk) (a : Nat) (x : Ar) : D.l.set a x = (D.upd a x).l := by
  apply List.ext_getElem?
  intro i
  simp only [Dk.l, Dk.upd, List.getElem?_set, List.getElem?_map, List.length_map, List.length_range]
  by_cases hi : i < D.n
  · by_cases hia : a = i
    · subst hia; simp [hi]
    · have : ¬ i = a := fun q => hia q.symm
      simp [hi, hia, this]
  · by_cases hia : a = i
    · subst hia; simp [hi]
    · simp [hi, hia]
abbrev Dk.rc (D : Dk) (A : Option Addr) (c : Nat) : Array Value := #[.slice A D.n c, .int .i64 D.room, .bool D.armed, .int .i64 D.power, .bool D.dead]
abbrev Dk.rv (D : Dk) (A : Option Addr) (c : Nat) : Value := .agg (D.rc A c)
/-- What was, or is new. -/
def Nw (F : Nat → Prop) (w w' : World) : Nat → Prop := fun b => F b ∨ (w.heap.size ≤ b ∧ b < w'.heap.size)
theorem Nw.lt {F : Nat → Prop} {w w' : World} (hF : ∀ b, F b → b < w.heap.size) (he : Ext w w') : ∀ b, Nw F w w' b → b < w'.heap.size := by
  rintro b (h | h)
  · exact Nat.lt_of_lt_of_le (hF b h) he.size
  · exact h.2
theorem Nw.mono {F : Nat → Prop} {w w1 w2 : World} (he : Ext w1 w2) : ∀ b, Nw F w w1 b → Nw F w w2 b := by
  rintro b (h | h)
  · exact Or.inl h
  · exact Or.inr ⟨h.1, Nat.lt_of_lt_of_le h.2 he.size⟩
theorem Nw.trans {F : Nat → Prop} {w w1 w2 : World} (h1 : Ext w w1) (h2 : Ext w1 w2) : ∀ b, Nw (Nw F w w1) w1 w2 b → Nw F w w2 b := by
  rintro b ((h | h) | h)
  · exact Or.inl h
  · exact Or.inr ⟨h.1, Nat.lt_of_lt_of_le h.2 h2.size⟩
  · exact Or.inr ⟨Nat.le_trans h1.size h.1, h.2⟩
/-- The areas. -/
def RA (w : World) (F : Nat → Prop) (A : Option Addr) (c : Nat) (D : Dk) : Prop := D.n ≤ c ∧ arR.Row w F A D.l
theorem RA.keep {w w' : World} {F F' : Nat → Prop} {A : Option Addr} {c : Nat} {D : Dk} (h : RA w F A c D) (hs : Same F w w') (hF : ∀ b, F b → F' b) : RA w' F' A c D := ⟨h.1, h.2.keep hs hF⟩
theorem RA.ext {w w' : World} {F : Nat → Prop} {A : Option Addr} {c : Nat} {D : Dk} (h : RA w F A c D) (hF : ∀ b, F b → b < w.heap.size) (he : Ext w w') : RA w' F A c D := h.keep (fun b hb => he.block b (hF b hb)) fun _ h => h
theorem RA.eq {w : World} {F : Nat → Prop} {A : Option Addr} {c : Nat} {D D' : Dk} (h : RA w F A c D) (hn : D'.n = D.n) (ha : D'.ar = D.ar) : RA w F A c D' := by
  have : D'.l = D.l := by unfold Dk.l; rw [hn, ha]
  exact ⟨by rw [hn]; exact h.1, by rw [this]; exact h.2⟩
/-- An area's cells. -/
theorem RA.cells {w : World} {F : Nat → Prop} {A : Option Addr} {c : Nat} {D : Dk} (h : RA w F A c D) (hF : ∀ b, F b → b < w.heap.size) {i : Nat} (hi : i < D.n) :
    ∃ g off A1 c1 A2 c2 A3 c3, A = some ⟨g, off, none⟩ ∧ g < w.heap.size ∧ (D.ar i).now.length ≤ c1 ∧ Ty.byte.Row w F A1 (D.ar i).now ∧ (D.ar i).lasts.length ≤ c2 ∧ Ty.byte.Row w F A2 (D.ar i).lasts ∧ (D.ar i).pend.length ≤ c3 ∧ stR.Row w F A3 (D.ar i).pend ∧
      ∀ w', Ext w w' → w'.cell? ⟨g, off + i * 3, none⟩ = some (.slice A1 (D.ar i).now.length c1) ∧ w'.cell? ⟨g, off + i * 3 + 1, none⟩ = some (.slice A2 (D.ar i).lasts.length c2) ∧ w'.cell? ⟨g, off + i * 3 + 2, none⟩ = some (.slice A3 (D.ar i).pend.length c3) := by
  have hil : i < D.l.length := by rw [l_len]; exact hi
  obtain ⟨g, off, xs, hA, hg, ⟨v1, v2, v3, rfl, ⟨A1, c1, rfl, h1, h2⟩, ⟨A2, c2, rfl, h3, h4⟩, ⟨A3, c3, rfl, h5, h6⟩⟩, hc⟩ := h.2.cells hil
  rw [l_at] at h1 h2 h3 h4 h5 h6 hc
  refine ⟨g, off, A1, c1, A2, c2, A3, c3, hA, hF g hg, h1, h2, h3, h4, h5, h6, fun w' he => ?_⟩
  rw [Below.cell he (hF g hg), Below.cell he (hF g hg), Below.cell he (hF g hg)]
  exact ⟨hc 0 (by decide), hc 1 (by decide), hc 2 (by decide)⟩
theorem row_st {w : World} {F : Nat → Prop} {b : Nat} {t : TypeId} {fr : Nat × Nat} (s : St) (h : w.heap[b]? = some (.cells #[.int .u8 s.c, .int .i64 s.n] t fr)) (hF : F b) : stR.Row w F (some ⟨b, 0, none⟩) [s] :=
  Blk.row h hF (fun i hi => ⟨s.c2, by have : i = 0 := by simpa using hi
                                      subst this; rfl, fun j hj => by have : i = 0 := by simpa using hi
                                                                      subst this; simp⟩)
theorem Row.fext {α : Type} {T : Ty α} {w w' : World} {F : Nat → Prop} {A : Option Addr} {l : List α} (h : T.Row w F A l) (hF : ∀ b, F b → b < w.heap.size) (he : Ext w w') : T.Row w' F A l := h.keep (fun b hb => he.block b (hF b hb)) fun _ h => h
/-- What was, or is new, but for some. -/
def Av (X F : Nat → Prop) (w w' : World) : Nat → Prop := fun b => ¬ X b ∧ Nw F w w' b
theorem Av.lt {X F : Nat → Prop} {w w' : World} (hF : ∀ b, F b → b < w.heap.size) (he : Ext w w') : ∀ b, Av X F w w' b → b < w'.heap.size := fun b h => Nw.lt hF he b h.2
theorem RA.init {X F : Nat → Prop} {w w' : World} {A : Option Addr} {c : Nat} {D : Dk} (h : RA w F A c D) (hF : ∀ b, F b → b < w.heap.size) (he : Ext w w') (hX : ∀ x, X x → w.heap.size ≤ x) : RA w' (Av X F w w') A c D :=
  h.keep (fun b hb => he.block b (hF b hb)) fun b hb => ⟨fun q => by have := hX b q; have := hF b hb; omega, Or.inl hb⟩
theorem RA.av {X F : Nat → Prop} {w w' : World} {A : Option Addr} {c : Nat} {D : Dk} (h : RA w' (Av X F w w') A c D) : RA w' (Nw F w w') A c D := h.keep (fun _ _ => rfl) fun b hb => hb.2
theorem RA.more {X F : Nat → Prop} {w w1 w' : World} {A : Option Addr} {c : Nat} {D : Dk} (h : RA w1 (Av X F w w1) A c D) (hF : ∀ b, F b → b < w.heap.size) (h0 : Ext w w1) (he : Ext w1 w') : RA w' (Av X F w w') A c D :=
  h.keep (fun b hb => he.block b (Av.lt hF h0 b hb)) fun b hb => ⟨hb.1, Nw.mono he b hb.2⟩
/-- What came out is stored in one's own. -/
theorem RA.store {X F : Nat → Prop} {w w3 w9 w' : World} {A : Option Addr} {c b : Nat} {D : Dk} (h : RA w9 (Nw (Av X F w w3) w3 w9) A c D) (hF : ∀ b, F b → b < w.heap.size) (hX : ∀ x, X x → x < w3.heap.size) (e1 : Ext w w3) (e2 : Ext w3 w9) (hC : Chg b w9 w') (hb : X b) : RA w' (Av X F w w') A c D := by
  have key : ∀ x, Nw (Av X F w w3) w3 w9 x → Av X F w w9 x := by
    rintro x (h | h)
    · exact ⟨h.1, Nw.mono e2 x h.2⟩
    · exact ⟨fun q => by have := hX x q; omega, Or.inr ⟨Nat.le_trans e1.size h.1, h.2⟩⟩
  refine h.keep (fun x hx => hC.block x (Av.lt hF (e1.trans e2) x (key x hx)) (fun q => (key x hx).1 (q ▸ hb))) fun x hx => ⟨(key x hx).1, ?_⟩
  rcases (key x hx).2 with h | h
  · exact Or.inl h
  · exact Or.inr ⟨h.1, Nat.lt_of_lt_of_le h.2 hC.size⟩
theorem RA.put {X F : Nat → Prop} {w w9 w' : World} {A : Option Addr} {c b : Nat} {D : Dk} (h : RA w9 (Av X F w w9) A c D) (hF : ∀ b, F b → b < w.heap.size) (e : Ext w w9) (hC : Chg b w9 w') (hb : X b) : RA w' (Av X F w w') A c D := by
  refine h.keep (fun x hx => hC.block x (Av.lt hF e x hx) (fun q => hx.1 (q ▸ hb))) fun x hx => ⟨hx.1, ?_⟩
  rcases hx.2 with h | h
  · exact Or.inl h
  · exact Or.inr ⟨h.1, Nat.lt_of_lt_of_le h.2 hC.size⟩
def Dk.runit (D : Dk) : Dk × Bool := if D.armed = true then (if D.power = 0 then ({ D with dead := true }, false) else ({ D with power := D.power - 1 }, true)) else (D, true)
def Dk.rput (D : Dk) (a : Nat) (s : St) : Dk := if D.runit.2 = true then D.runit.1.put a s else D.runit.1
def Dk.rgrow (D : Dk) (a : Nat) : List UInt8 → Dk
  | [] => D
  | c :: l => if D.dead = true then D else (D.rput a (.grow c)).rgrow a l
def Dk.rappend (D : Dk) (a : Int) (b : List UInt8) : Dk × Int :=
  if D.may a ≠ 0 then (D, D.may a) else if D.used + b.length > D.room then (D, 8) else (D.rgrow a.toNat b, (D.rgrow a.toNat b).may a)
def Dk.rcut (D : Dk) (a n : Int) : Dk × Int :=
  if D.may a ≠ 0 then (D, D.may a) else if n < 0 ∨ n > (D.ar a.toNat).now.length then (D, 2)
  else (D.rput a.toNat (.cut n.toNat), (D.rput a.toNat (.cut n.toNat)).may a)
def Dk.rsync (D : Dk) (a : Int) : Dk × Int :=
  if D.may a ≠ 0 then (D, D.may a) else if D.runit.2 = true then (D.runit.1.synced a.toNat, (D.runit.1.synced a.toNat).may a) else (D.runit.1, D.runit.1.may a)
end Go.Proofs.Ytlidigdlcjhkfaa
