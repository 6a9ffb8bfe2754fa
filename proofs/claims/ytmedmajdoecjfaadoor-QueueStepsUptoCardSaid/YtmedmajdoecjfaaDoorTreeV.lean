/-
  The walks of package tree: a step; whether a tree may be; all changes.
-/
import Derived.Test.YtmedmajdoecjfaaDoorFacts
import Derived.Test.YtmedmajdoecjfaaDoorTreeW
import Derived.Test.YtmedmajdoecjfaaDoorGenB
namespace Go.Proofs.YtmedmajdoecjfaaDoor
open Go Go.Eng Go.RowKit Go.Proofs
set_option linter.unusedVariables false
set_option linter.unusedSimpArgs false
set_option maxHeartbeats 2000000

theorem step_spec {A : Option Addr} {cap : Nat} {l : Tree} {d : Dl} {Ad : Option Addr} {cd : Nat} {w : World} {G : Nat → Prop} (hG : ∀ b, G b → b < w.heap.size) (hrow : fiT.Row w G A l) (hl : (l.length + 1) * 40 ≤ 140737488355328) (hdc : d.b.length ≤ cd) (hdl : d.b.length ≤ 140737488355328) (hpl : d.p.length ≤ 140737488355328) (hdrow : Ty.byte.Row w G Ad d.b) :
    Calls Tryd.prog 66 #[.slice A l.length cap, .agg #[.int .i64 d.k, .string (str d.p), .slice Ad d.b.length cd]] w (fun en w' => ∃ v, en = .returned v ∧ ∃ v1, v = .tuple #[v1, .int .i64 (stepT l d).1] ∧ OwnT w w' v1 (stepT l d).2 ∧ Ext w w') := by
  obtain ⟨rs, hal, hrr⟩ := Row.raw hrow; have hlen := hal.len
  have hFi : ∀ r ∈ rs, FileR r := fun r hr => by
    obtain ⟨x, _, hx⟩ := hal.mem hr; exact fi_raw hx
  have hth : rs.any (isP d.p) = decide (hasT l d.p = true) := by
    have h := Al.all (p := fun x : Fi => decide (x.p = d.p)) (q := isP d.p) (fun x r h => (isP_fi h).symm) hal; rw [← h]
    show hasT l d.p = _
    cases hasT l d.p <;> rfl
  have hcon : ∀ {b : Nat} {W : World}, Ext w W → Blk W b #[.string (str d.p)] 9 → Calls Tryd.prog 63 #[.slice A l.length cap, .func (.func 84) #[] #[.pointer (some ⟨b, 0, none⟩)]] W (fun en w' => ∃ v, en = .returned v ∧ v = .bool (decide (hasT l d.p = true)) ∧ Ext W w') := fun {b W} he hb => by
    have := containsFunc_spec (cap := cap) (is_pred b d.p) (hrr.keep (fun b hb => he.block b (hG b hb)) (fun b hb => Nat.lt_of_lt_of_le (hG b hb) he.size)) hFi hb (by omega)
    rw [hth, ← hlen] at this
    exact this
  refine calls' (n := 57) (rs := #[.tmp 4, .tmp 5]) (l := [.slice A l.length cap, .agg #[.int .i64 d.k, .string (str d.p), .slice Ad d.b.length cd]]) Tryd.func66 rfl rfl rfl rfl rfl ?_; have hX := Ext.refl w; refine W_seq ?_; refine W_region ?_; refine op_box (v := .agg _) rfl rfl ?_; intro w0_0 b0_0 E0_0 B0_0 L0_0
  have hG0_0 : w.heap.size ≤ b0_0 := by have := hX.size; omega
  replace hX := hX.trans E0_0; refine op rfl (r_assignV (v := .slice _ _ _) rfl) ?_; refine op rfl (r_assignV (v := .int _ _) rfl) ?_; refine WL_nil ?_; refine W_seq ?_; refine W_region ?_; refine op rfl (r_moveV (v := .slice _ _ _) rfl) ?_; refine op rfl (r_fieldAddr rfl Tryd.fld38_1 rfl) ?_; refine op rfl (r_load (v := .string (str d.p)) rfl Tryd.underlying9 rfl (Blk.cell B0_0 rfl)) ?_; refine opCv rfl (r_call Tryd.func79 Tryd.nm79 rfl) (is_spec d.p _) ?_; rintro v2 w2 ⟨b, rfl, hE, hb, hbl⟩; replace B0_0 := Blk.ext B0_0 hE; replace hX := hX.trans hE; refine opCv rfl (r_call Tryd.func63 Tryd.nm63 rfl) (hcon hX hb) ?_; rintro v3 w3 ⟨rfl, hE⟩; replace B0_0 := Blk.ext B0_0 hE; replace hX := hX.trans hE; refine op rfl (r_assignV (v := .bool _) rfl) ?_; refine WL_nil ?_; refine W_seq ?_; refine W_block ?_; refine W_seq ?_; refine W_region ?_; refine op rfl (r_fieldAddr rfl Tryd.fld38_0 rfl) ?_; refine op rfl (r_load (v := .int .i64 d.k) rfl Tryd.underlying3 rfl (Blk.cell B0_0 rfl)) ?_; refine op rfl (r_lss rfl rfl) ?_; refine op_split rfl (r_moveV (v := .bool (decide _)) rfl) (fun hg16 => ?_) (fun hg16 => ?_)
  · refine opG_no rfl rfl rfl rfl rfl ?_; refine opG_no rfl rfl rfl rfl rfl ?_; refine opG_no rfl rfl rfl rfl rfl ?_; refine op rfl (r_pickTV (v := .bool _) rfl rfl) ?_; refine op rfl (r_moveV (v := .bool _) rfl) ?_; refine opG_no rfl rfl rfl rfl rfl ?_; refine opG_no rfl rfl rfl rfl rfl ?_; refine opG_no rfl rfl rfl rfl rfl ?_; refine opG_no rfl rfl rfl rfl rfl ?_; refine op rfl (r_pickTV (v := .bool _) rfl rfl) ?_; refine op rfl (r_assignV (v := .bool _) rfl) ?_; refine WL_nil ?_; refine W_then rfl ?_; refine W_seq ?_; refine W_region ?_; refine op rfl (r_assignV (v := .slice _ _ _) rfl) ?_; refine op rfl (r_assignV (v := .int _ _) rfl) ?_; refine WL_nil ?_; refine W_ret (blk_ret (finX_ret ?_)); refine fin2 ?_
    first
      | (have e : stepT l d = (2, []) := st2 (by first | exact Or.inl hg16 | exact Or.inr (Or.inl hg21) | exact Or.inr (Or.inr ht12))
         rw [e]; exact ⟨_, rfl, _, rfl, .nil, hX⟩)
      | exact absurd hg31 hg38
      | omega
      | (have h0 : ¬ (d.k < 1 ∨ 3 < d.k ∨ ¬ rightP d.p) := fun q => q.elim hg16 (fun q => q.elim hg21 (fun q => ht12 q))
         first
           | (rw [st5 h0 hg31 ht27]; exact ⟨_, rfl, _, rfl, .nil, hX⟩)
           | (rw [st6 h0 hg38 ht34]; exact ⟨_, rfl, _, rfl, .nil, hX⟩)
           | (rw [st3 h0 ht42 (Classical.not_not.1 ht34)]; exact ⟨_, rfl, _, rfl, hO, hX⟩)
           | (rw [st0 h0 ht42 ⟨fun _ => ht27, fun _ => hg31⟩]; exact ⟨_, rfl, _, rfl, hO, hX⟩)
           | (rw [st0 h0 ht42 ⟨fun q => absurd q hg31, fun q => absurd q ht34⟩]; exact ⟨_, rfl, _, rfl, hO, hX⟩))
  · refine opG_yes rfl rfl rfl rfl rfl (r_fieldAddr rfl Tryd.fld38_0 rfl) ?_; refine opG_yes rfl rfl rfl rfl rfl (r_load (v := .int .i64 d.k) rfl Tryd.underlying3 rfl (Blk.cell B0_0 rfl)) ?_; refine opG_yes rfl rfl rfl rfl rfl (r_gtr rfl rfl) ?_; refine op rfl (r_pickFV (v := .bool _) rfl rfl) ?_; refine op_split rfl (r_moveV (v := .bool (decide _)) rfl) (fun hg21 => ?_) (fun hg21 => ?_)
    · refine opG_no rfl rfl rfl rfl rfl ?_; refine opG_no rfl rfl rfl rfl rfl ?_; refine opG_no rfl rfl rfl rfl rfl ?_; refine opG_no rfl rfl rfl rfl rfl ?_; refine op rfl (r_pickTV (v := .bool _) rfl rfl) ?_; refine op rfl (r_assignV (v := .bool _) rfl) ?_; refine WL_nil ?_; refine W_then rfl ?_; refine W_seq ?_; refine W_region ?_; refine op rfl (r_assignV (v := .slice _ _ _) rfl) ?_; refine op rfl (r_assignV (v := .int _ _) rfl) ?_; refine WL_nil ?_; refine W_ret (blk_ret (finX_ret ?_)); refine fin2 ?_
      first
        | (have e : stepT l d = (2, []) := st2 (by first | exact Or.inl hg16 | exact Or.inr (Or.inl hg21) | exact Or.inr (Or.inr ht12))
           rw [e]; exact ⟨_, rfl, _, rfl, .nil, hX⟩)
        | exact absurd hg31 hg38
        | omega
        | (have h0 : ¬ (d.k < 1 ∨ 3 < d.k ∨ ¬ rightP d.p) := fun q => q.elim hg16 (fun q => q.elim hg21 (fun q => ht12 q))
           first
             | (rw [st5 h0 hg31 ht27]; exact ⟨_, rfl, _, rfl, .nil, hX⟩)
             | (rw [st6 h0 hg38 ht34]; exact ⟨_, rfl, _, rfl, .nil, hX⟩)
             | (rw [st3 h0 ht42 (Classical.not_not.1 ht34)]; exact ⟨_, rfl, _, rfl, hO, hX⟩)
             | (rw [st0 h0 ht42 ⟨fun _ => ht27, fun _ => hg31⟩]; exact ⟨_, rfl, _, rfl, hO, hX⟩)
             | (rw [st0 h0 ht42 ⟨fun q => absurd q hg31, fun q => absurd q ht34⟩]; exact ⟨_, rfl, _, rfl, hO, hX⟩))
    · refine opG_yes rfl rfl rfl rfl rfl (r_fieldAddr rfl Tryd.fld38_1 rfl) ?_; refine opG_yes rfl rfl rfl rfl rfl (r_load (v := .string (str d.p)) rfl Tryd.underlying9 rfl (Blk.cell B0_0 rfl)) ?_; refine opGCv_yes rfl rfl rfl rfl rfl (r_call Tryd.func61 Tryd.nm61 rfl) (right_spec d.p _ hpl) ?_; rintro v4 w4 ⟨rfl, hE⟩; replace B0_0 := Blk.ext B0_0 hE; replace hX := hX.trans hE; refine opG_yes rfl rfl rfl rfl rfl (r_notP rfl) ?_; refine op rfl (r_pickFV (v := .bool _) rfl rfl) ?_; refine op rfl (r_assignV (v := .bool _) rfl) ?_; refine WL_nil ?_; refine W_ifp rfl (fun ht12 => ?_) (fun ht12 => ?_)
      · refine W_seq ?_; refine W_region ?_; refine op rfl (r_assignV (v := .slice _ _ _) rfl) ?_; refine op rfl (r_assignV (v := .int _ _) rfl) ?_; refine WL_nil ?_; refine W_ret (blk_ret (finX_ret ?_)); refine fin2 ?_
        first
          | (have e : stepT l d = (2, []) := st2 (by first | exact Or.inl hg16 | exact Or.inr (Or.inl hg21) | exact Or.inr (Or.inr ht12))
             rw [e]; exact ⟨_, rfl, _, rfl, .nil, hX⟩)
          | exact absurd hg31 hg38
          | omega
          | (have h0 : ¬ (d.k < 1 ∨ 3 < d.k ∨ ¬ rightP d.p) := fun q => q.elim hg16 (fun q => q.elim hg21 (fun q => ht12 q))
             first
               | (rw [st5 h0 hg31 ht27]; exact ⟨_, rfl, _, rfl, .nil, hX⟩)
               | (rw [st6 h0 hg38 ht34]; exact ⟨_, rfl, _, rfl, .nil, hX⟩)
               | (rw [st3 h0 ht42 (Classical.not_not.1 ht34)]; exact ⟨_, rfl, _, rfl, hO, hX⟩)
               | (rw [st0 h0 ht42 ⟨fun _ => ht27, fun _ => hg31⟩]; exact ⟨_, rfl, _, rfl, hO, hX⟩)
               | (rw [st0 h0 ht42 ⟨fun q => absurd q hg31, fun q => absurd q ht34⟩]; exact ⟨_, rfl, _, rfl, hO, hX⟩))
      · refine W_seq ?_; refine W_region ?_; refine op rfl (r_fieldAddr rfl Tryd.fld38_0 rfl) ?_; refine op rfl (r_load (v := .int .i64 d.k) rfl Tryd.underlying3 rfl (Blk.cell B0_0 rfl)) ?_; refine op rfl (r_eql rfl rfl) ?_; refine op_split rfl (r_moveV (v := .bool (decide _)) rfl) (fun hg31 => ?_) (fun hg31 => ?_)
        · refine opG_yes rfl rfl rfl rfl rfl (r_moveV (v := .bool _) rfl) ?_; refine op rfl (r_pickTV (v := .bool _) rfl rfl) ?_; refine op rfl (r_assignV (v := .bool _) rfl) ?_; refine WL_nil ?_; refine W_ifp rfl (fun ht27 => ?_) (fun ht27 => ?_)
          · refine W_seq ?_; refine W_region ?_; refine op rfl (r_assignV (v := .slice _ _ _) rfl) ?_; refine op rfl (r_assignV (v := .int _ _) rfl) ?_; refine WL_nil ?_; refine W_ret (blk_ret (finX_ret ?_)); refine fin2 ?_
            first
              | (have e : stepT l d = (2, []) := st2 (by first | exact Or.inl hg16 | exact Or.inr (Or.inl hg21) | exact Or.inr (Or.inr ht12))
                 rw [e]; exact ⟨_, rfl, _, rfl, .nil, hX⟩)
              | exact absurd hg31 hg38
              | omega
              | (have h0 : ¬ (d.k < 1 ∨ 3 < d.k ∨ ¬ rightP d.p) := fun q => q.elim hg16 (fun q => q.elim hg21 (fun q => ht12 q))
                 first
                   | (rw [st5 h0 hg31 ht27]; exact ⟨_, rfl, _, rfl, .nil, hX⟩)
                   | (rw [st6 h0 hg38 ht34]; exact ⟨_, rfl, _, rfl, .nil, hX⟩)
                   | (rw [st3 h0 ht42 (Classical.not_not.1 ht34)]; exact ⟨_, rfl, _, rfl, hO, hX⟩)
                   | (rw [st0 h0 ht42 ⟨fun _ => ht27, fun _ => hg31⟩]; exact ⟨_, rfl, _, rfl, hO, hX⟩)
                   | (rw [st0 h0 ht42 ⟨fun q => absurd q hg31, fun q => absurd q ht34⟩]; exact ⟨_, rfl, _, rfl, hO, hX⟩))
          · refine W_seq ?_; refine W_region ?_; refine op rfl (r_fieldAddr rfl Tryd.fld38_0 rfl) ?_; refine op rfl (r_load (v := .int .i64 d.k) rfl Tryd.underlying3 rfl (Blk.cell B0_0 rfl)) ?_; refine op rfl (r_neq rfl rfl) ?_; refine op_split rfl (r_moveV (v := .bool (decide _)) rfl) (fun hg38 => ?_) (fun hg38 => ?_)
            · refine opG_yes rfl rfl rfl rfl rfl (r_moveV (v := .bool _) rfl) ?_; refine opG_yes rfl rfl rfl rfl rfl (r_notP rfl) ?_; refine op rfl (r_pickTV (v := .bool _) rfl rfl) ?_; refine op rfl (r_assignV (v := .bool _) rfl) ?_; refine WL_nil ?_; refine W_ifp rfl (fun ht34 => ?_) (fun ht34 => ?_)
              · refine W_seq ?_; refine W_region ?_; refine op rfl (r_assignV (v := .slice _ _ _) rfl) ?_; refine op rfl (r_assignV (v := .int _ _) rfl) ?_; refine WL_nil ?_; refine W_ret (blk_ret (finX_ret ?_)); refine fin2 ?_
                first
                  | (have e : stepT l d = (2, []) := st2 (by first | exact Or.inl hg16 | exact Or.inr (Or.inl hg21) | exact Or.inr (Or.inr ht12))
                     rw [e]; exact ⟨_, rfl, _, rfl, .nil, hX⟩)
                  | exact absurd hg31 hg38
                  | omega
                  | (have h0 : ¬ (d.k < 1 ∨ 3 < d.k ∨ ¬ rightP d.p) := fun q => q.elim hg16 (fun q => q.elim hg21 (fun q => ht12 q))
                     first
                       | (rw [st5 h0 hg31 ht27]; exact ⟨_, rfl, _, rfl, .nil, hX⟩)
                       | (rw [st6 h0 hg38 ht34]; exact ⟨_, rfl, _, rfl, .nil, hX⟩)
                       | (rw [st3 h0 ht42 (Classical.not_not.1 ht34)]; exact ⟨_, rfl, _, rfl, hO, hX⟩)
                       | (rw [st0 h0 ht42 ⟨fun _ => ht27, fun _ => hg31⟩]; exact ⟨_, rfl, _, rfl, hO, hX⟩)
                       | (rw [st0 h0 ht42 ⟨fun q => absurd q hg31, fun q => absurd q ht34⟩]; exact ⟨_, rfl, _, rfl, hO, hX⟩))
              · refine W_seq ?_; refine W_region ?_; refine op rfl (r_fieldAddr rfl Tryd.fld38_0 rfl) ?_; refine op rfl (r_load (v := .int .i64 d.k) rfl Tryd.underlying3 rfl (Blk.cell B0_0 rfl)) ?_; refine op rfl (r_eql rfl rfl) ?_; refine op rfl (r_assignV (v := .bool _) rfl) ?_; refine WL_nil ?_; refine W_ifp rfl (fun ht42 => ?_) (fun ht42 => ?_)
                · refine W_seq ?_; refine W_region ?_; refine op rfl (r_moveV (v := .slice _ _ _) rfl) ?_; refine op rfl (r_fieldAddr rfl Tryd.fld38_1 rfl) ?_; refine op rfl (r_load (v := .string (str d.p)) rfl Tryd.underlying9 rfl (Blk.cell B0_0 rfl)) ?_; have hXl := hX.size; refine opCv rfl (r_call Tryd.func80 Tryd.nm80 rfl) (drop_spec (s := d.p) (fun b hb ↦ Nat.lt_of_lt_of_le (hG b hb) hX.size) (hrow.keep (fun b hb ↦ hX.block b (hG b hb)) (fun _ h ↦ h)) (by omega)) ?_; rintro v5 w5 ⟨hO, hE⟩; replace B0_0 := Blk.ext B0_0 hE; replace hX := hX.trans hE; replace hO := OwnT.low hO hXl; refine op rfl (r_assignV (v := v5) rfl) ?_; refine op rfl (r_assignV (v := .int _ _) rfl) ?_; refine WL_nil ?_; refine W_ret (blk_ret (finX_ret ?_)); refine fin2 ?_
                  first
                    | (have e : stepT l d = (2, []) := st2 (by first | exact Or.inl hg16 | exact Or.inr (Or.inl hg21) | exact Or.inr (Or.inr ht12))
                       rw [e]; exact ⟨_, rfl, _, rfl, .nil, hX⟩)
                    | exact absurd hg31 hg38
                    | omega
                    | (have h0 : ¬ (d.k < 1 ∨ 3 < d.k ∨ ¬ rightP d.p) := fun q => q.elim hg16 (fun q => q.elim hg21 (fun q => ht12 q))
                       first
                         | (rw [st5 h0 hg31 ht27]; exact ⟨_, rfl, _, rfl, .nil, hX⟩)
                         | (rw [st6 h0 hg38 ht34]; exact ⟨_, rfl, _, rfl, .nil, hX⟩)
                         | (rw [st3 h0 ht42 (Classical.not_not.1 ht34)]; exact ⟨_, rfl, _, rfl, hO, hX⟩)
                         | (rw [st0 h0 ht42 ⟨fun _ => ht27, fun _ => hg31⟩]; exact ⟨_, rfl, _, rfl, hO, hX⟩)
                         | (rw [st0 h0 ht42 ⟨fun q => absurd q hg31, fun q => absurd q ht34⟩]; exact ⟨_, rfl, _, rfl, hO, hX⟩))
                · refine W_skip ?_; refine W_seq ?_; refine W_region ?_; refine op rfl (r_moveV (v := .slice _ _ _) rfl) ?_; refine op rfl (r_fieldAddr rfl Tryd.fld38_1 rfl) ?_; refine op rfl (r_load (v := .string (str d.p)) rfl Tryd.underlying9 rfl (Blk.cell B0_0 rfl)) ?_; refine op rfl (r_fieldAddr rfl Tryd.fld38_2 rfl) ?_; refine op rfl (r_load (v := .slice Ad d.b.length cd) rfl Tryd.underlying24 rfl (Blk.cell B0_0 rfl)) ?_; refine op rfl (r_build (cs := [.string _, .slice _ _ _]) Tryd.lay35 (List.forall_mem_cons.2 ⟨rfl, List.forall_mem_cons.2 ⟨rfl, fun _ h => by cases h⟩⟩) rfl rfl) ?_; have hXl := hX.size; refine opCv rfl (r_call Tryd.func81 Tryd.nm81 rfl) (put_spec (f := ⟨d.p, d.b⟩) (fun b hb ↦ Nat.lt_of_lt_of_le (hG b hb) hX.size) (hrow.keep (fun b hb ↦ hX.block b (hG b hb)) (fun _ h ↦ h)) (by omega) hdc hdl hpl (hdrow.keep (fun b hb ↦ hX.block b (hG b hb)) (fun _ h ↦ h))) ?_; rintro v5 w5 ⟨hO, hE⟩; replace B0_0 := Blk.ext B0_0 hE; replace hX := hX.trans hE; replace hO := OwnT.low hO hXl; refine op rfl (r_assignV (v := v5) rfl) ?_; refine op rfl (r_assignV (v := .int _ _) rfl) ?_; refine WL_nil ?_; refine W_ret (finX_ret ?_); refine fin2 ?_
                  first
                    | (have e : stepT l d = (2, []) := st2 (by first | exact Or.inl hg16 | exact Or.inr (Or.inl hg21) | exact Or.inr (Or.inr ht12))
                       rw [e]; exact ⟨_, rfl, _, rfl, .nil, hX⟩)
                    | exact absurd hg31 hg38
                    | omega
                    | (have h0 : ¬ (d.k < 1 ∨ 3 < d.k ∨ ¬ rightP d.p) := fun q => q.elim hg16 (fun q => q.elim hg21 (fun q => ht12 q))
                       first
                         | (rw [st5 h0 hg31 ht27]; exact ⟨_, rfl, _, rfl, .nil, hX⟩)
                         | (rw [st6 h0 hg38 ht34]; exact ⟨_, rfl, _, rfl, .nil, hX⟩)
                         | (rw [st3 h0 ht42 (Classical.not_not.1 ht34)]; exact ⟨_, rfl, _, rfl, hO, hX⟩)
                         | (rw [st0 h0 ht42 ⟨fun _ => ht27, fun _ => hg31⟩]; exact ⟨_, rfl, _, rfl, hO, hX⟩)
                         | (rw [st0 h0 ht42 ⟨fun q => absurd q hg31, fun q => absurd q ht34⟩]; exact ⟨_, rfl, _, rfl, hO, hX⟩))
            · refine opG_no rfl rfl rfl rfl rfl ?_; refine opG_no rfl rfl rfl rfl rfl ?_; refine op rfl (r_pickFV (v := .bool _) rfl rfl) ?_; refine op rfl (r_assignV (v := .bool _) rfl) ?_; refine WL_nil ?_; refine W_else rfl ?_; refine W_seq ?_; refine W_region ?_; refine op rfl (r_fieldAddr rfl Tryd.fld38_0 rfl) ?_; refine op rfl (r_load (v := .int .i64 d.k) rfl Tryd.underlying3 rfl (Blk.cell B0_0 rfl)) ?_; refine op rfl (r_eql rfl rfl) ?_; refine op rfl (r_assignV (v := .bool _) rfl) ?_; refine WL_nil ?_; refine W_ifp rfl (fun ht42 => ?_) (fun ht42 => ?_)
              · refine W_seq ?_; refine W_region ?_; refine op rfl (r_moveV (v := .slice _ _ _) rfl) ?_; refine op rfl (r_fieldAddr rfl Tryd.fld38_1 rfl) ?_; refine op rfl (r_load (v := .string (str d.p)) rfl Tryd.underlying9 rfl (Blk.cell B0_0 rfl)) ?_; have hXl := hX.size; refine opCv rfl (r_call Tryd.func80 Tryd.nm80 rfl) (drop_spec (s := d.p) (fun b hb ↦ Nat.lt_of_lt_of_le (hG b hb) hX.size) (hrow.keep (fun b hb ↦ hX.block b (hG b hb)) (fun _ h ↦ h)) (by omega)) ?_; rintro v5 w5 ⟨hO, hE⟩; replace B0_0 := Blk.ext B0_0 hE; replace hX := hX.trans hE; replace hO := OwnT.low hO hXl; refine op rfl (r_assignV (v := v5) rfl) ?_; refine op rfl (r_assignV (v := .int _ _) rfl) ?_; refine WL_nil ?_; refine W_ret (blk_ret (finX_ret ?_)); refine fin2 ?_
                first
                  | (have e : stepT l d = (2, []) := st2 (by first | exact Or.inl hg16 | exact Or.inr (Or.inl hg21) | exact Or.inr (Or.inr ht12))
                     rw [e]; exact ⟨_, rfl, _, rfl, .nil, hX⟩)
                  | exact absurd hg31 hg38
                  | omega
                  | (have h0 : ¬ (d.k < 1 ∨ 3 < d.k ∨ ¬ rightP d.p) := fun q => q.elim hg16 (fun q => q.elim hg21 (fun q => ht12 q))
                     first
                       | (rw [st5 h0 hg31 ht27]; exact ⟨_, rfl, _, rfl, .nil, hX⟩)
                       | (rw [st6 h0 hg38 ht34]; exact ⟨_, rfl, _, rfl, .nil, hX⟩)
                       | (rw [st3 h0 ht42 (Classical.not_not.1 ht34)]; exact ⟨_, rfl, _, rfl, hO, hX⟩)
                       | (rw [st0 h0 ht42 ⟨fun _ => ht27, fun _ => hg31⟩]; exact ⟨_, rfl, _, rfl, hO, hX⟩)
                       | (rw [st0 h0 ht42 ⟨fun q => absurd q hg31, fun q => absurd q ht34⟩]; exact ⟨_, rfl, _, rfl, hO, hX⟩))
              · refine W_skip ?_; refine W_seq ?_; refine W_region ?_; refine op rfl (r_moveV (v := .slice _ _ _) rfl) ?_; refine op rfl (r_fieldAddr rfl Tryd.fld38_1 rfl) ?_; refine op rfl (r_load (v := .string (str d.p)) rfl Tryd.underlying9 rfl (Blk.cell B0_0 rfl)) ?_; refine op rfl (r_fieldAddr rfl Tryd.fld38_2 rfl) ?_; refine op rfl (r_load (v := .slice Ad d.b.length cd) rfl Tryd.underlying24 rfl (Blk.cell B0_0 rfl)) ?_; refine op rfl (r_build (cs := [.string _, .slice _ _ _]) Tryd.lay35 (List.forall_mem_cons.2 ⟨rfl, List.forall_mem_cons.2 ⟨rfl, fun _ h => by cases h⟩⟩) rfl rfl) ?_; have hXl := hX.size; refine opCv rfl (r_call Tryd.func81 Tryd.nm81 rfl) (put_spec (f := ⟨d.p, d.b⟩) (fun b hb ↦ Nat.lt_of_lt_of_le (hG b hb) hX.size) (hrow.keep (fun b hb ↦ hX.block b (hG b hb)) (fun _ h ↦ h)) (by omega) hdc hdl hpl (hdrow.keep (fun b hb ↦ hX.block b (hG b hb)) (fun _ h ↦ h))) ?_; rintro v5 w5 ⟨hO, hE⟩; replace B0_0 := Blk.ext B0_0 hE; replace hX := hX.trans hE; replace hO := OwnT.low hO hXl; refine op rfl (r_assignV (v := v5) rfl) ?_; refine op rfl (r_assignV (v := .int _ _) rfl) ?_; refine WL_nil ?_; refine W_ret (finX_ret ?_); refine fin2 ?_
                first
                  | (have e : stepT l d = (2, []) := st2 (by first | exact Or.inl hg16 | exact Or.inr (Or.inl hg21) | exact Or.inr (Or.inr ht12))
                     rw [e]; exact ⟨_, rfl, _, rfl, .nil, hX⟩)
                  | exact absurd hg31 hg38
                  | omega
                  | (have h0 : ¬ (d.k < 1 ∨ 3 < d.k ∨ ¬ rightP d.p) := fun q => q.elim hg16 (fun q => q.elim hg21 (fun q => ht12 q))
                     first
                       | (rw [st5 h0 hg31 ht27]; exact ⟨_, rfl, _, rfl, .nil, hX⟩)
                       | (rw [st6 h0 hg38 ht34]; exact ⟨_, rfl, _, rfl, .nil, hX⟩)
                       | (rw [st3 h0 ht42 (Classical.not_not.1 ht34)]; exact ⟨_, rfl, _, rfl, hO, hX⟩)
                       | (rw [st0 h0 ht42 ⟨fun _ => ht27, fun _ => hg31⟩]; exact ⟨_, rfl, _, rfl, hO, hX⟩)
                       | (rw [st0 h0 ht42 ⟨fun q => absurd q hg31, fun q => absurd q ht34⟩]; exact ⟨_, rfl, _, rfl, hO, hX⟩))
        · refine opG_no rfl rfl rfl rfl rfl ?_; refine op rfl (r_pickFV (v := .bool _) rfl rfl) ?_; refine op rfl (r_assignV (v := .bool _) rfl) ?_; refine WL_nil ?_; refine W_else rfl ?_; refine W_seq ?_; refine W_region ?_; refine op rfl (r_fieldAddr rfl Tryd.fld38_0 rfl) ?_; refine op rfl (r_load (v := .int .i64 d.k) rfl Tryd.underlying3 rfl (Blk.cell B0_0 rfl)) ?_; refine op rfl (r_neq rfl rfl) ?_; refine op_split rfl (r_moveV (v := .bool (decide _)) rfl) (fun hg38 => ?_) (fun hg38 => ?_)
          · refine opG_yes rfl rfl rfl rfl rfl (r_moveV (v := .bool _) rfl) ?_; refine opG_yes rfl rfl rfl rfl rfl (r_notP rfl) ?_; refine op rfl (r_pickTV (v := .bool _) rfl rfl) ?_; refine op rfl (r_assignV (v := .bool _) rfl) ?_; refine WL_nil ?_; refine W_ifp rfl (fun ht34 => ?_) (fun ht34 => ?_)
            · refine W_seq ?_; refine W_region ?_; refine op rfl (r_assignV (v := .slice _ _ _) rfl) ?_; refine op rfl (r_assignV (v := .int _ _) rfl) ?_; refine WL_nil ?_; refine W_ret (blk_ret (finX_ret ?_)); refine fin2 ?_
              first
                | (have e : stepT l d = (2, []) := st2 (by first | exact Or.inl hg16 | exact Or.inr (Or.inl hg21) | exact Or.inr (Or.inr ht12))
                   rw [e]; exact ⟨_, rfl, _, rfl, .nil, hX⟩)
                | exact absurd hg31 hg38
                | omega
                | (have h0 : ¬ (d.k < 1 ∨ 3 < d.k ∨ ¬ rightP d.p) := fun q => q.elim hg16 (fun q => q.elim hg21 (fun q => ht12 q))
                   first
                     | (rw [st5 h0 hg31 ht27]; exact ⟨_, rfl, _, rfl, .nil, hX⟩)
                     | (rw [st6 h0 hg38 ht34]; exact ⟨_, rfl, _, rfl, .nil, hX⟩)
                     | (rw [st3 h0 ht42 (Classical.not_not.1 ht34)]; exact ⟨_, rfl, _, rfl, hO, hX⟩)
                     | (rw [st0 h0 ht42 ⟨fun _ => ht27, fun _ => hg31⟩]; exact ⟨_, rfl, _, rfl, hO, hX⟩)
                     | (rw [st0 h0 ht42 ⟨fun q => absurd q hg31, fun q => absurd q ht34⟩]; exact ⟨_, rfl, _, rfl, hO, hX⟩))
            · refine W_seq ?_; refine W_region ?_; refine op rfl (r_fieldAddr rfl Tryd.fld38_0 rfl) ?_; refine op rfl (r_load (v := .int .i64 d.k) rfl Tryd.underlying3 rfl (Blk.cell B0_0 rfl)) ?_; refine op rfl (r_eql rfl rfl) ?_; refine op rfl (r_assignV (v := .bool _) rfl) ?_; refine WL_nil ?_; refine W_ifp rfl (fun ht42 => ?_) (fun ht42 => ?_)
              · refine W_seq ?_; refine W_region ?_; refine op rfl (r_moveV (v := .slice _ _ _) rfl) ?_; refine op rfl (r_fieldAddr rfl Tryd.fld38_1 rfl) ?_; refine op rfl (r_load (v := .string (str d.p)) rfl Tryd.underlying9 rfl (Blk.cell B0_0 rfl)) ?_; have hXl := hX.size; refine opCv rfl (r_call Tryd.func80 Tryd.nm80 rfl) (drop_spec (s := d.p) (fun b hb ↦ Nat.lt_of_lt_of_le (hG b hb) hX.size) (hrow.keep (fun b hb ↦ hX.block b (hG b hb)) (fun _ h ↦ h)) (by omega)) ?_; rintro v5 w5 ⟨hO, hE⟩; replace B0_0 := Blk.ext B0_0 hE; replace hX := hX.trans hE; replace hO := OwnT.low hO hXl; refine op rfl (r_assignV (v := v5) rfl) ?_; refine op rfl (r_assignV (v := .int _ _) rfl) ?_; refine WL_nil ?_; refine W_ret (blk_ret (finX_ret ?_)); refine fin2 ?_
                first
                  | (have e : stepT l d = (2, []) := st2 (by first | exact Or.inl hg16 | exact Or.inr (Or.inl hg21) | exact Or.inr (Or.inr ht12))
                     rw [e]; exact ⟨_, rfl, _, rfl, .nil, hX⟩)
                  | exact absurd hg31 hg38
                  | omega
                  | (have h0 : ¬ (d.k < 1 ∨ 3 < d.k ∨ ¬ rightP d.p) := fun q => q.elim hg16 (fun q => q.elim hg21 (fun q => ht12 q))
                     first
                       | (rw [st5 h0 hg31 ht27]; exact ⟨_, rfl, _, rfl, .nil, hX⟩)
                       | (rw [st6 h0 hg38 ht34]; exact ⟨_, rfl, _, rfl, .nil, hX⟩)
                       | (rw [st3 h0 ht42 (Classical.not_not.1 ht34)]; exact ⟨_, rfl, _, rfl, hO, hX⟩)
                       | (rw [st0 h0 ht42 ⟨fun _ => ht27, fun _ => hg31⟩]; exact ⟨_, rfl, _, rfl, hO, hX⟩)
                       | (rw [st0 h0 ht42 ⟨fun q => absurd q hg31, fun q => absurd q ht34⟩]; exact ⟨_, rfl, _, rfl, hO, hX⟩))
              · refine W_skip ?_; refine W_seq ?_; refine W_region ?_; refine op rfl (r_moveV (v := .slice _ _ _) rfl) ?_; refine op rfl (r_fieldAddr rfl Tryd.fld38_1 rfl) ?_; refine op rfl (r_load (v := .string (str d.p)) rfl Tryd.underlying9 rfl (Blk.cell B0_0 rfl)) ?_; refine op rfl (r_fieldAddr rfl Tryd.fld38_2 rfl) ?_; refine op rfl (r_load (v := .slice Ad d.b.length cd) rfl Tryd.underlying24 rfl (Blk.cell B0_0 rfl)) ?_; refine op rfl (r_build (cs := [.string _, .slice _ _ _]) Tryd.lay35 (List.forall_mem_cons.2 ⟨rfl, List.forall_mem_cons.2 ⟨rfl, fun _ h => by cases h⟩⟩) rfl rfl) ?_; have hXl := hX.size; refine opCv rfl (r_call Tryd.func81 Tryd.nm81 rfl) (put_spec (f := ⟨d.p, d.b⟩) (fun b hb ↦ Nat.lt_of_lt_of_le (hG b hb) hX.size) (hrow.keep (fun b hb ↦ hX.block b (hG b hb)) (fun _ h ↦ h)) (by omega) hdc hdl hpl (hdrow.keep (fun b hb ↦ hX.block b (hG b hb)) (fun _ h ↦ h))) ?_; rintro v5 w5 ⟨hO, hE⟩; replace B0_0 := Blk.ext B0_0 hE; replace hX := hX.trans hE; replace hO := OwnT.low hO hXl; refine op rfl (r_assignV (v := v5) rfl) ?_; refine op rfl (r_assignV (v := .int _ _) rfl) ?_; refine WL_nil ?_; refine W_ret (finX_ret ?_); refine fin2 ?_
                first
                  | (have e : stepT l d = (2, []) := st2 (by first | exact Or.inl hg16 | exact Or.inr (Or.inl hg21) | exact Or.inr (Or.inr ht12))
                     rw [e]; exact ⟨_, rfl, _, rfl, .nil, hX⟩)
                  | exact absurd hg31 hg38
                  | omega
                  | (have h0 : ¬ (d.k < 1 ∨ 3 < d.k ∨ ¬ rightP d.p) := fun q => q.elim hg16 (fun q => q.elim hg21 (fun q => ht12 q))
                     first
                       | (rw [st5 h0 hg31 ht27]; exact ⟨_, rfl, _, rfl, .nil, hX⟩)
                       | (rw [st6 h0 hg38 ht34]; exact ⟨_, rfl, _, rfl, .nil, hX⟩)
                       | (rw [st3 h0 ht42 (Classical.not_not.1 ht34)]; exact ⟨_, rfl, _, rfl, hO, hX⟩)
                       | (rw [st0 h0 ht42 ⟨fun _ => ht27, fun _ => hg31⟩]; exact ⟨_, rfl, _, rfl, hO, hX⟩)
                       | (rw [st0 h0 ht42 ⟨fun q => absurd q hg31, fun q => absurd q ht34⟩]; exact ⟨_, rfl, _, rfl, hO, hX⟩))
          · refine opG_no rfl rfl rfl rfl rfl ?_; refine opG_no rfl rfl rfl rfl rfl ?_; refine op rfl (r_pickFV (v := .bool _) rfl rfl) ?_; refine op rfl (r_assignV (v := .bool _) rfl) ?_; refine WL_nil ?_; refine W_else rfl ?_; refine W_seq ?_; refine W_region ?_; refine op rfl (r_fieldAddr rfl Tryd.fld38_0 rfl) ?_; refine op rfl (r_load (v := .int .i64 d.k) rfl Tryd.underlying3 rfl (Blk.cell B0_0 rfl)) ?_; refine op rfl (r_eql rfl rfl) ?_; refine op rfl (r_assignV (v := .bool _) rfl) ?_; refine WL_nil ?_; refine W_ifp rfl (fun ht42 => ?_) (fun ht42 => ?_)
            · refine W_seq ?_; refine W_region ?_; refine op rfl (r_moveV (v := .slice _ _ _) rfl) ?_; refine op rfl (r_fieldAddr rfl Tryd.fld38_1 rfl) ?_; refine op rfl (r_load (v := .string (str d.p)) rfl Tryd.underlying9 rfl (Blk.cell B0_0 rfl)) ?_; have hXl := hX.size; refine opCv rfl (r_call Tryd.func80 Tryd.nm80 rfl) (drop_spec (s := d.p) (fun b hb ↦ Nat.lt_of_lt_of_le (hG b hb) hX.size) (hrow.keep (fun b hb ↦ hX.block b (hG b hb)) (fun _ h ↦ h)) (by omega)) ?_; rintro v5 w5 ⟨hO, hE⟩; replace B0_0 := Blk.ext B0_0 hE; replace hX := hX.trans hE; replace hO := OwnT.low hO hXl; refine op rfl (r_assignV (v := v5) rfl) ?_; refine op rfl (r_assignV (v := .int _ _) rfl) ?_; refine WL_nil ?_; refine W_ret (blk_ret (finX_ret ?_)); refine fin2 ?_
              first
                | (have e : stepT l d = (2, []) := st2 (by first | exact Or.inl hg16 | exact Or.inr (Or.inl hg21) | exact Or.inr (Or.inr ht12))
                   rw [e]; exact ⟨_, rfl, _, rfl, .nil, hX⟩)
                | exact absurd hg31 hg38
                | omega
                | (have h0 : ¬ (d.k < 1 ∨ 3 < d.k ∨ ¬ rightP d.p) := fun q => q.elim hg16 (fun q => q.elim hg21 (fun q => ht12 q))
                   first
                     | (rw [st5 h0 hg31 ht27]; exact ⟨_, rfl, _, rfl, .nil, hX⟩)
                     | (rw [st6 h0 hg38 ht34]; exact ⟨_, rfl, _, rfl, .nil, hX⟩)
                     | (rw [st3 h0 ht42 (Classical.not_not.1 ht34)]; exact ⟨_, rfl, _, rfl, hO, hX⟩)
                     | (rw [st0 h0 ht42 ⟨fun _ => ht27, fun _ => hg31⟩]; exact ⟨_, rfl, _, rfl, hO, hX⟩)
                     | (rw [st0 h0 ht42 ⟨fun q => absurd q hg31, fun q => absurd q ht34⟩]; exact ⟨_, rfl, _, rfl, hO, hX⟩))
            · refine W_skip ?_; refine W_seq ?_; refine W_region ?_; refine op rfl (r_moveV (v := .slice _ _ _) rfl) ?_; refine op rfl (r_fieldAddr rfl Tryd.fld38_1 rfl) ?_; refine op rfl (r_load (v := .string (str d.p)) rfl Tryd.underlying9 rfl (Blk.cell B0_0 rfl)) ?_; refine op rfl (r_fieldAddr rfl Tryd.fld38_2 rfl) ?_; refine op rfl (r_load (v := .slice Ad d.b.length cd) rfl Tryd.underlying24 rfl (Blk.cell B0_0 rfl)) ?_; refine op rfl (r_build (cs := [.string _, .slice _ _ _]) Tryd.lay35 (List.forall_mem_cons.2 ⟨rfl, List.forall_mem_cons.2 ⟨rfl, fun _ h => by cases h⟩⟩) rfl rfl) ?_; have hXl := hX.size; refine opCv rfl (r_call Tryd.func81 Tryd.nm81 rfl) (put_spec (f := ⟨d.p, d.b⟩) (fun b hb ↦ Nat.lt_of_lt_of_le (hG b hb) hX.size) (hrow.keep (fun b hb ↦ hX.block b (hG b hb)) (fun _ h ↦ h)) (by omega) hdc hdl hpl (hdrow.keep (fun b hb ↦ hX.block b (hG b hb)) (fun _ h ↦ h))) ?_; rintro v5 w5 ⟨hO, hE⟩; replace B0_0 := Blk.ext B0_0 hE; replace hX := hX.trans hE; replace hO := OwnT.low hO hXl; refine op rfl (r_assignV (v := v5) rfl) ?_; refine op rfl (r_assignV (v := .int _ _) rfl) ?_; refine WL_nil ?_; refine W_ret (finX_ret ?_); refine fin2 ?_
              first
                | (have e : stepT l d = (2, []) := st2 (by first | exact Or.inl hg16 | exact Or.inr (Or.inl hg21) | exact Or.inr (Or.inr ht12))
                   rw [e]; exact ⟨_, rfl, _, rfl, .nil, hX⟩)
                | exact absurd hg31 hg38
                | omega
                | (have h0 : ¬ (d.k < 1 ∨ 3 < d.k ∨ ¬ rightP d.p) := fun q => q.elim hg16 (fun q => q.elim hg21 (fun q => ht12 q))
                   first
                     | (rw [st5 h0 hg31 ht27]; exact ⟨_, rfl, _, rfl, .nil, hX⟩)
                     | (rw [st6 h0 hg38 ht34]; exact ⟨_, rfl, _, rfl, .nil, hX⟩)
                     | (rw [st3 h0 ht42 (Classical.not_not.1 ht34)]; exact ⟨_, rfl, _, rfl, hO, hX⟩)
                     | (rw [st0 h0 ht42 ⟨fun _ => ht27, fun _ => hg31⟩]; exact ⟨_, rfl, _, rfl, hO, hX⟩)
                     | (rw [st0 h0 ht42 ⟨fun q => absurd q hg31, fun q => absurd q ht34⟩]; exact ⟨_, rfl, _, rfl, hO, hX⟩))

def DirsF (f : Value → Option Value) (P : List UInt8 → Prop) : Prop := ∀ s, (P s → f (.string (str s)) = some (.bool true)) ∧ (¬ P s → f (.string (str s)) = none)
theorem str_inj {a b : List UInt8} (h : Value.string (str a) = Value.string (str b)) : a = b := by
  have : str a = str b := Value.string.inj h; have := congrArg (fun s : ByteArray => s.data.toList) this; exact this
theorem DirsF.put {f : Value → Option Value} {P : List UInt8 → Prop} (h : DirsF f P) (d : List UInt8) : DirsF (fput f (.string (str d)) (.bool true)) (fun s => P s ∨ s = d) := by
  intro s
  by_cases hs : s = d
  · subst hs; exact ⟨fun _ => fput_same _ _ _, fun q => absurd (Or.inr rfl) q⟩
  · have hne : Value.string (str s) ≠ .string (str d) := fun q => hs (str_inj q)
    rw [fput_ne hne]; exact ⟨fun q => (h s).1 (q.resolve_right hs), fun q => (h s).2 (fun k => q (Or.inl k))⟩
theorem DirsF.imp {f : Value → Option Value} {P Q : List UInt8 → Prop} (h : DirsF f P) (hi : ∀ s, P s ↔ Q s) : DirsF f Q := fun s => ⟨fun q => (h s).1 ((hi s).2 q), fun q => (h s).2 (fun k => q ((hi s).1 k))⟩
noncomputable def dirB (P : List UInt8 → Prop) (r : List Value) : Bool := match r with
  | .string q :: _ => @decide (P q.data.toList) (Classical.propDecidable _)
  | _ => false
theorem DirsF.get {f : Value → Option Value} {P : List UInt8 → Prop} (h : DirsF f P) (s : List UInt8) : (f (.string (str s))).getD (.bool false) = .bool (@decide (P s) (Classical.propDecidable _)) := by
  by_cases hs : P s
  · rw [(h s).1 hs]; simp [hs]
  · rw [(h s).2 hs]; simp [hs]
theorem dir_pred (b m : Nat) (P : List UInt8 → Prop) : PredC 64 [.pointer (some ⟨b, 0, none⟩)] (dirB P) FileR (fun W => Blk W b #[.map (some m)] 134 ∧ ∃ f, MapAt .string W m f ∧ DirsF f P) := by
  refine ⟨⟨_, Tryd.func64, Tryd.nm64, rfl⟩, ?_, fun W W' h he => ⟨h.1.ext he, let ⟨f, h1, h2⟩ := h.2; ⟨f, h1.ext he, h2⟩⟩⟩; rintro r W ⟨q, A, n, c, rfl⟩ ⟨hb, f, hm, hF⟩; obtain ⟨q, rfl⟩ : ∃ l, q = str l := ⟨q.data.toList, (str_of q).symm⟩
  show Calls Tryd.prog 64 #[.agg #[.string (str q), .slice A n c], .pointer (some ⟨b, 0, none⟩)] W _
  have hget := hF.get q; refine calls' (n := 8) (rs := #[.tmp 3]) (l := [.agg #[.string (str q), .slice A n c], .pointer (some ⟨b, 0, none⟩)]) Tryd.func64 rfl rfl rfl rfl rfl ?_; have hX := Ext.refl W; refine W_seq ?_; refine W_region ?_; refine op_box (v := .agg _) rfl rfl ?_; intro w0_0 b0_0 E0_0 B0_0 L0_0
  have hG0_0 : W.heap.size ≤ b0_0 := by have := hX.size; omega
  have hNb_0_0 : b ≠ b0_0 := by have := Blk.lt hb; omega
  replace hb := Blk.ext hb E0_0; replace hX := hX.trans E0_0; refine op rfl (r_assignV (v := .bool _) rfl) ?_; refine WL_nil ?_; refine W_seq ?_; refine W_region ?_; refine op rfl (r_load (v := .map (some m)) rfl Tryd.underlying134 rfl (Blk.cell hb rfl)) ?_; refine op rfl (r_fieldAddr rfl Tryd.fld35_0 rfl) ?_; refine op rfl (r_load (v := .string (str q)) rfl Tryd.underlying9 rfl (Blk.cell B0_0 rfl)) ?_; refine op rfl (rk_lookupV rfl rfl Tryd.underlying134 Tryd.underlying9 (by trivial) Tryd.zero4 (hm.ext hX) hget) ?_; refine op rfl (r_assignV (v := .bool _) rfl) ?_; refine WL_nil ?_; refine W_ret (finX_ret ?_); refine fin1 ?_; exact ⟨_, rfl, bool_iff (by show P q ↔ @decide (P q) (Classical.propDecidable _) = true; exact (@decide_eq_true_iff _ (Classical.propDecidable _)).symm), hX⟩
theorem treeRight_spec {A : Option Addr} {cap : Nat} {l : Tree} {w : World} {G : Nat → Prop} (hG : ∀ b, G b → b < w.heap.size) (hrow : fiT.Row w G A l) (hl : l.length * 40 ≤ 140737488355328) :
    Calls Tryd.prog 43 #[.slice A l.length cap] w (fun en w' => ∃ v, en = .returned v ∧ v = .bool (decide (rightT l)) ∧ Ext w w') := by
  obtain ⟨rs, hal, hrr⟩ := Row.raw hrow; have hlen := hal.len
  have hFi : ∀ r ∈ rs, FileR r := fun r hr => by
    obtain ⟨x, _, hx⟩ := hal.mem hr; exact fi_raw hx
  have hat : ∀ i (h : i < l.length), ∃ g off Ai ci, A = some ⟨g, off, none⟩ ∧ l[i].b.length ≤ 140737488355328 ∧ l[i].p.length ≤ 140737488355328 ∧ ∀ j, j < 2 → w.cell? ⟨g, off + i * 2 + j, none⟩ = [Value.string (str l[i].p), .slice Ai l[i].b.length ci][j]? := fun i h => by
    obtain ⟨g, off, xs, hA, _, hx, hc⟩ := hrow.cells h; obtain ⟨Ai, ci, rfl, _, h1, h2, _⟩ := fi_cells hx; exact ⟨g, off, Ai, ci, hA, h1, h2, hc⟩
  have hcon : ∀ {b m : Nat} {f : Value → Option Value} {W : World}, Ext w W → Blk W b #[.map (some m)] 134 → MapAt .string W m f → DirsF f (fun s => ∃ k, ∃ h : k < l.length, k < l.length ∧ s ∈ dirsT (dirP l[k].p)) → Calls Tryd.prog 63 #[.slice A l.length cap, .func (.func 64) #[] #[.pointer (some ⟨b, 0, none⟩)]] W (fun en w' => ∃ v, en = .returned v ∧ v = .bool (decide (clashT l)) ∧ Ext W w') := fun {b m f W} he hb hm hF => by
    have h := containsFunc_spec (cap := cap) (dir_pred b m (fun s => isDir l s)) (hrr.keep (fun b hb => he.block b (hG b hb)) (fun b hb => Nat.lt_of_lt_of_le (hG b hb) he.size)) hFi ⟨hb, f, hm, hF.imp (fun s => ⟨fun ⟨k, h, _, h2⟩ => ⟨l[k], List.getElem_mem h, h2⟩, fun ⟨x, hx, h2⟩ => by
      obtain ⟨k, hk, rfl⟩ := List.mem_iff_getElem.1 hx
      exact ⟨k, hk, hk, h2⟩⟩)⟩ (by omega)
    have hany : rs.any (dirB (fun s => isDir l s)) = decide (clashT l) := by
      have h := Al.all (p := fun x : Fi => @decide (isDir l x.p) (Classical.propDecidable _)) (q := dirB (fun s => isDir l s)) (fun x r h => by
        obtain ⟨A, c, rfl, _⟩ := fi_cells h
        rfl) hal
      rw [← h]; rw [Bool.eq_iff_iff, List.any_eq_true, decide_eq_true_iff]; exact ⟨fun ⟨x, hx, h⟩ => ⟨x, hx, (@decide_eq_true_iff _ (Classical.propDecidable _)).1 h⟩, fun ⟨x, hx, h⟩ => ⟨x, hx, (@decide_eq_true_iff _ (Classical.propDecidable _)).2 h⟩⟩
    rw [hany, ← hlen] at h
    exact h
  refine calls' (n := 57) (rs := #[.tmp 2]) (l := [.slice A l.length cap]) Tryd.func43 rfl rfl rfl rfl rfl ?_; have hX := Ext.refl w; refine W_seq ?_; refine W_region ?_; refine op rfl (r_assignV (v := .bool _) rfl) ?_; refine WL_nil ?_; refine W_seq ?_; refine W_seq ?_; refine W_region ?_; refine op rfl (r_moveV (v := .slice _ _ _) rfl) ?_; refine op rfl (r_len_slice rfl Tryd.underlying23) ?_; refine op rfl (r_gtr rfl rfl) ?_; refine WL_nil ?_; refine W_ifp rfl (fun ht9 => ?_) (fun ht9 => ?_)
  · refine W_seq ?_; refine W_region ?_; refine op rfl (r_assignV (v := .bool _) rfl) ?_; refine WL_nil ?_; refine W_ret (finX_ret ?_); refine fin1 ?_
    first
      | exact ⟨_, rfl, bool_ff (fun h => by have := h.1; omega), hX⟩
      | exact ⟨_, rfl, bool_iff ⟨fun h => ⟨by omega, fun k hk => hok k hk hk, h⟩, fun h => h.2.2⟩, hX⟩
      | exact ⟨_, rfl, bool_ff (fun h => by
          obtain ⟨q1, q2, q3⟩ := h.2.1 i hlt
          first | exact hg22 q1 | exact hg37 (q2 (by omega)) | omega), hX⟩
  · refine W_skip ?_; refine W_seq ?_; refine W_region ?_; refine op_makeMapK .string rfl ?_; intro w30 m E30 M30 L30; replace hX := hX.trans E30
    have hGm : w.heap.size ≤ m := by omega
    refine op_alloc rfl Tryd.zero134 ?_; intro w3_1 b3_1 E3_1 B3_1 L3_1
    have hG3_1 : w.heap.size ≤ b3_1 := by have := hX.size; omega
    replace hX := hX.trans E3_1; have M31 := M30.ext E3_1; refine op_store (v := .map (some m)) rfl rfl rfl Tryd.sz134 B3_1 (Nat.le_of_ble_eq_true rfl) ?_; intro w32 C32 B32; have M32 := M31.chg C32 (M31.ne_cells B3_1); replace hX := Chg.ext hX hG3_1 C32; clear B3_1; have B3_1 : Blk w32 b3_1 #[.map (some m)] 134 := B32; refine WL_nil ?_; refine W_seq ?_; refine W_seq ?_; refine W_region ?_; refine op rfl (r_moveV (v := .slice _ _ _) rfl) ?_; refine op rfl (r_len_slice rfl Tryd.underlying23) ?_; refine op rfl (r_moveV (v := .int _ _) rfl) ?_; refine WL_nil ?_; refine W_block ?_; refine W_loop [2, 4, 5, 6, 13, 14, 15, 16, 17, 18, 19, 20, 21, 22, 23, 24, 25, 26, 27, 28, 29, 30, 31, 32, 33, 34, 35, 36, 37, 38, 39, 40, 41, 42, 43, 44, 45, 46, 47, 48, 49, 50, 51, 52] (fun q e' w' => ∃ (i : Nat) (f : Value → Option Value), q = l.length - i ∧ i ≤ l.length ∧ e' 13 = .int .i64 i ∧ Blk w' b3_1 #[.map (some m)] 134 ∧ MapAt .string w' m f ∧ DirsF f (fun s => ∃ k, ∃ h : k < l.length, k < i ∧ s ∈ dirsT (dirP l[k].p)) ∧ (∀ k (h : k < l.length), k < i → fileOk l k h) ∧ Ext w w') (l.length) ?_ ?_
    · exact ⟨0, _, by omega, by omega, rfl, B3_1, M32, fun s => ⟨fun ⟨k, _, h, _⟩ => absurd h (Nat.not_lt_zero k), fun _ => rfl⟩, fun k _ h => absurd h (Nat.not_lt_zero k), hX⟩
    intro k g w' hI; obtain ⟨i, f, hq, hi, h13, B3', M3, hF, hok, hX'⟩ := hI; clear hX B3_1 M32; have hX := hX'; have B3_1 := B3'; clear B3' hX'; refine W_set (i := 13) h13 ?_; refine W_seq ?_; refine W_region ?_; refine op rfl (r_lss rfl rfl) ?_; refine WL_nil ?_; refine W_seq ?_; refine W_ifp rfl (fun ht14 => ?_) (fun ht14 => ?_)
    · have hlt : i < l.length := by omega
      obtain ⟨ga, off, Ai, ci, hA, hbl, hpl, hcell⟩ := hat i hlt; refine W_skip ?_; refine W_seq ?_; refine W_block ?_; refine W_seq ?_; refine W_region ?_; refine op rfl (r_moveV (v := .int _ _) rfl) ?_; refine op rfl (r_indexAddrK (by rw [← hA]; rfl) rfl Tryd.underlying23 Tryd.sz35 hlt) ?_; refine op rfl (r_load_agg (cs := [.string (str l[i].p), .slice Ai l[i].b.length ci]) rfl Tryd.underlying35 rfl Tryd.sz35 rfl (ext_row hX rfl hcell)) ?_; refine op_alloc rfl Tryd.zero35 ?_; intro w6_3 b6_3 E6_3 B6_3 L6_3
      have hG6_3 : w.heap.size ≤ b6_3 := by have := hX.size; omega
      have hNb3_1_6_3 : b3_1 ≠ b6_3 := by have := Blk.lt B3_1; omega
      replace B3_1 := Blk.ext B3_1 E6_3; replace hX := hX.trans E6_3; refine op rfl (r_assignV (v := .int _ _) rfl) ?_; refine op_storeRow rfl rfl Tryd.sz35 B6_3 rfl rfl ?_; intro w6_5 C6_5 BB6_5; replace B3_1 := Chg.blk C6_5 B3_1 hNb3_1_6_3; replace hX := hX.chg C6_5 hG6_3; replace B6_3 := BB6_5; refine WL_nil ?_; refine W_seq ?_; refine W_seq ?_; refine W_drawF (W0 := w) (fun b : Nat => b = b3_1 ∨ b = b6_3 ∨ False) Tryd.wd rfl ?_; intro wd7 hD; replace B3_1 := Blk.ext B3_1 hD; replace B6_3 := Blk.ext B6_3 hD; replace hX := hX.trans hD; have DB3_1 := B3_1; have DB6_3 := B6_3; have hS : Ext w wd7 ∧ Same (fun b : Nat => b = b3_1 ∨ b = b6_3 ∨ False) wd7 wd7 := ⟨hX, fun _ _ => rfl⟩; refine A_take (i := 0) rfl (by kernel_rfl) (by kernel_rfl) (by kernel_rfl) rfl hS (fun _ hw => r_fieldAddr rfl Tryd.fld35_0 rfl) ?_; refine A_take (i := 1) rfl (by kernel_rfl) (by kernel_rfl) (by kernel_rfl) rfl hS (fun _ hw => r_load (v := .string (str l[i].p)) rfl Tryd.underlying9 rfl (Blk.cell (Blk.at DB6_3 (hw.2 _ (Or.inr (Or.inl rfl)))) rfl)) ?_; refine A_ready1 (i := 2) (by kernel_rfl) ?_; refine O_call rfl rfl (r_call Tryd.func61 Tryd.nm61 rfl) (right_spec l[i].p _ hpl) ?_; rintro v w2 ⟨rfl, hE⟩; replace B3_1 := Blk.ext B3_1 hE; replace B6_3 := Blk.ext B6_3 hE; replace hX := hX.trans hE; replace hS : Ext w w2 ∧ Same (fun b : Nat => b = b3_1 ∨ b = b6_3 ∨ False) wd7 w2 := ⟨hX, fun b hb => Or.elim hb (fun q => by subst q; exact Blk.eq B3_1 DB3_1) (fun hb => Or.elim hb (fun q => by subst q; exact Blk.eq B6_3 DB6_3) (fun hb => hb.elim))⟩; refine ⟨hS, ?_⟩; have hE72 := hE; refine A_take (i := 3) rfl (by kernel_rfl) (by kernel_rfl) (by kernel_rfl) rfl hS (fun _ hw => r_notP rfl) ?_; refine A_split (i := 4) rfl (by kernel_rfl) (by kernel_rfl) (by kernel_rfl) rfl hS (fun _ _ => r_moveV (v := .bool (decide _)) rfl) (fun hg22 => ?_) (fun hg22 => ?_)
      · refine A_skip (i := 5) rfl (by kernel_rfl) (by kernel_rfl) (by kernel_rfl) rfl hS rfl rfl rfl rfl ?_; refine A_skip (i := 6) rfl (by kernel_rfl) (by kernel_rfl) (by kernel_rfl) rfl hS rfl rfl rfl rfl ?_; refine A_skip (i := 7) rfl (by kernel_rfl) (by kernel_rfl) (by kernel_rfl) rfl hS rfl rfl rfl rfl ?_; refine A_skipN (i := 8) rfl (by kernel_rfl) (by kernel_rfl) (by kernel_rfl) rfl hS rfl rfl rfl ?_; refine A_skipN (i := 9) rfl (by kernel_rfl) (by kernel_rfl) (by kernel_rfl) rfl hS rfl rfl rfl ?_; refine A_skipN (i := 10) rfl (by kernel_rfl) (by kernel_rfl) (by kernel_rfl) rfl hS rfl rfl rfl ?_; refine A_skipN (i := 11) rfl (by kernel_rfl) (by kernel_rfl) (by kernel_rfl) rfl hS rfl rfl rfl ?_; refine A_skipN (i := 12) rfl (by kernel_rfl) (by kernel_rfl) (by kernel_rfl) rfl hS rfl rfl rfl ?_; refine A_skipN (i := 13) rfl (by kernel_rfl) (by kernel_rfl) (by kernel_rfl) rfl hS rfl rfl rfl ?_; refine A_skipN (i := 14) rfl (by kernel_rfl) (by kernel_rfl) (by kernel_rfl) rfl hS rfl rfl rfl ?_; refine A_skipN (i := 15) rfl (by kernel_rfl) (by kernel_rfl) (by kernel_rfl) rfl hS rfl rfl rfl ?_; refine A_skipN (i := 16) rfl (by kernel_rfl) (by kernel_rfl) (by kernel_rfl) rfl hS rfl rfl rfl ?_; refine A_skip (i := 17) rfl (by kernel_rfl) (by kernel_rfl) (by kernel_rfl) rfl hS rfl rfl rfl rfl ?_; refine A_take (i := 18) rfl (by kernel_rfl) (by kernel_rfl) (by kernel_rfl) rfl hS (fun _ hw => r_pickTV (v := .bool _) rfl rfl) ?_; refine A_take (i := 19) rfl (by kernel_rfl) (by kernel_rfl) (by kernel_rfl) rfl hS (fun _ hw => r_moveV (v := .bool _) rfl) ?_; refine A_skip (i := 20) rfl (by kernel_rfl) (by kernel_rfl) (by kernel_rfl) rfl hS rfl rfl rfl rfl ?_; refine A_skip (i := 21) rfl (by kernel_rfl) (by kernel_rfl) (by kernel_rfl) rfl hS rfl rfl rfl rfl ?_; refine A_skip (i := 22) rfl (by kernel_rfl) (by kernel_rfl) (by kernel_rfl) rfl hS rfl rfl rfl rfl ?_; refine A_skip (i := 23) rfl (by kernel_rfl) (by kernel_rfl) (by kernel_rfl) rfl hS rfl rfl rfl rfl ?_; refine A_take (i := 24) rfl (by kernel_rfl) (by kernel_rfl) (by kernel_rfl) rfl hS (fun _ hw => r_pickTV (v := .bool _) rfl rfl) ?_; refine A_done (by kernel_rfl) ?_; refine W_then rfl ?_; refine W_seq ?_; refine W_region ?_; refine op rfl (r_assignV (v := .bool _) rfl) ?_; refine WL_nil ?_; refine W_ret (blk_ret (blk_ret (finX_ret ?_))); refine fin1 ?_
        first
          | exact ⟨_, rfl, bool_ff (fun h => by have := h.1; omega), hX⟩
          | exact ⟨_, rfl, bool_iff ⟨fun h => ⟨by omega, fun k hk => hok k hk hk, h⟩, fun h => h.2.2⟩, hX⟩
          | exact ⟨_, rfl, bool_ff (fun h => by
              obtain ⟨q1, q2, q3⟩ := h.2.1 i hlt
              first | exact hg22 q1 | exact hg37 (q2 (by omega)) | omega), hX⟩
      · refine A_takeG (i := 5) rfl (by kernel_rfl) (by kernel_rfl) (by kernel_rfl) rfl hS rfl rfl rfl rfl (fun _ hw => r_moveV (v := .int _ _) rfl) ?_; refine A_takeG (i := 6) rfl (by kernel_rfl) (by kernel_rfl) (by kernel_rfl) rfl hS rfl rfl rfl rfl (fun _ hw => r_gtr rfl rfl) ?_; refine A_splitG (i := 7) rfl (by kernel_rfl) (by kernel_rfl) (by kernel_rfl) rfl hS rfl rfl rfl rfl (fun _ _ => r_moveV (v := .bool (decide _)) rfl) (fun hg25 => ?_) (fun hg25 => ?_)
        · have hi1 : i - 1 < l.length := by omega
          obtain ⟨g1, off1, Ap, cp, hA1, _, _, hcell1⟩ := hat (i - 1) hi1; refine A_takeG (i := 8) rfl (by kernel_rfl) (by kernel_rfl) (by kernel_rfl) rfl hS rfl rfl rfl rfl (fun _ hw => r_fieldAddr rfl Tryd.fld35_0 rfl) ?_; refine A_takeG (i := 9) rfl (by kernel_rfl) (by kernel_rfl) (by kernel_rfl) rfl hS rfl rfl rfl rfl (fun _ hw => r_load (v := .string (str l[i].p)) rfl Tryd.underlying9 rfl (Blk.cell (Blk.at DB6_3 (hw.2 _ (Or.inr (Or.inl rfl)))) rfl)) ?_; refine A_takeG (i := 10) rfl (by kernel_rfl) (by kernel_rfl) (by kernel_rfl) rfl hS rfl rfl rfl rfl (fun _ hw => r_moveV (v := .slice _ _ _) rfl) ?_; refine A_takeG (i := 11) rfl (by kernel_rfl) (by kernel_rfl) (by kernel_rfl) rfl hS rfl rfl rfl rfl (fun _ hw => r_moveV (v := .int _ _) rfl) ?_; refine A_takeG (i := 12) rfl (by kernel_rfl) (by kernel_rfl) (by kernel_rfl) rfl hS rfl rfl rfl rfl (fun _ hw => r_sub' (r := ((i - 1 : Nat) : Int)) rfl rfl (by rw [wrap_i64 (by omega) (by omega)]; omega)) ?_; refine A_takeG (i := 13) rfl (by kernel_rfl) (by kernel_rfl) (by kernel_rfl) rfl hS rfl rfl rfl rfl (fun _ hw => r_indexAddrK (by rw [← hA1]; rfl) rfl Tryd.underlying23 Tryd.sz35 hi1) ?_; refine A_takeG (i := 14) rfl (by kernel_rfl) (by kernel_rfl) (by kernel_rfl) rfl hS rfl rfl rfl rfl (fun _ hw => r_fieldAddr rfl Tryd.fld35_0 rfl) ?_; refine A_takeG (i := 15) rfl (by kernel_rfl) (by kernel_rfl) (by kernel_rfl) rfl hS rfl rfl rfl rfl (fun _ hw => r_load (v := .string (str (l[i - 1]'hi1).p)) rfl Tryd.underlying9 rfl (ext_cell hw.1 (hcell1 0 (by omega)))) ?_; refine A_takeG (i := 16) rfl (by kernel_rfl) (by kernel_rfl) (by kernel_rfl) rfl hS rfl rfl rfl rfl (fun _ hw => rt_leq rfl rfl) ?_; refine A_takeG (i := 17) rfl (by kernel_rfl) (by kernel_rfl) (by kernel_rfl) rfl hS rfl rfl rfl rfl (fun _ hw => r_pickTV (v := .bool _) rfl rfl) ?_; refine A_take (i := 18) rfl (by kernel_rfl) (by kernel_rfl) (by kernel_rfl) rfl hS (fun _ hw => r_pickFV (v := .bool _) rfl rfl) ?_; refine A_split (i := 19) rfl (by kernel_rfl) (by kernel_rfl) (by kernel_rfl) rfl hS (fun _ _ => r_moveV (v := .bool (decide _)) rfl) (fun hg37 => ?_) (fun hg37 => ?_)
          · refine A_skip (i := 20) rfl (by kernel_rfl) (by kernel_rfl) (by kernel_rfl) rfl hS rfl rfl rfl rfl ?_; refine A_skip (i := 21) rfl (by kernel_rfl) (by kernel_rfl) (by kernel_rfl) rfl hS rfl rfl rfl rfl ?_; refine A_skip (i := 22) rfl (by kernel_rfl) (by kernel_rfl) (by kernel_rfl) rfl hS rfl rfl rfl rfl ?_; refine A_skip (i := 23) rfl (by kernel_rfl) (by kernel_rfl) (by kernel_rfl) rfl hS rfl rfl rfl rfl ?_; refine A_take (i := 24) rfl (by kernel_rfl) (by kernel_rfl) (by kernel_rfl) rfl hS (fun _ hw => r_pickTV (v := .bool _) rfl rfl) ?_; refine A_done (by kernel_rfl) ?_; refine W_then rfl ?_; refine W_seq ?_; refine W_region ?_; refine op rfl (r_assignV (v := .bool _) rfl) ?_; refine WL_nil ?_; refine W_ret (blk_ret (blk_ret (finX_ret ?_))); refine fin1 ?_
            first
              | exact ⟨_, rfl, bool_ff (fun h => by have := h.1; omega), hX⟩
              | exact ⟨_, rfl, bool_iff ⟨fun h => ⟨by omega, fun k hk => hok k hk hk, h⟩, fun h => h.2.2⟩, hX⟩
              | exact ⟨_, rfl, bool_ff (fun h => by
                  obtain ⟨q1, q2, q3⟩ := h.2.1 i hlt
                  first | exact hg22 q1 | exact hg37 (q2 (by omega)) | omega), hX⟩
          · refine A_takeG (i := 20) rfl (by kernel_rfl) (by kernel_rfl) (by kernel_rfl) rfl hS rfl rfl rfl rfl (fun _ hw => r_fieldAddr rfl Tryd.fld35_1 rfl) ?_; refine A_takeG (i := 21) rfl (by kernel_rfl) (by kernel_rfl) (by kernel_rfl) rfl hS rfl rfl rfl rfl (fun _ hw => r_load (v := .slice Ai l[i].b.length ci) rfl Tryd.underlying24 rfl (Blk.cell (Blk.at DB6_3 (hw.2 _ (Or.inr (Or.inl rfl)))) rfl)) ?_; refine A_takeG (i := 22) rfl (by kernel_rfl) (by kernel_rfl) (by kernel_rfl) rfl hS rfl rfl rfl rfl (fun _ hw => r_len_slice rfl Tryd.underlying24) ?_; refine A_takeG (i := 23) rfl (by kernel_rfl) (by kernel_rfl) (by kernel_rfl) rfl hS rfl rfl rfl rfl (fun _ hw => r_gtr rfl rfl) ?_; refine A_take (i := 24) rfl (by kernel_rfl) (by kernel_rfl) (by kernel_rfl) rfl hS (fun _ hw => r_pickFV (v := .bool _) rfl rfl) ?_; refine A_done (by kernel_rfl) ?_; refine W_ifp rfl (fun ht42 => ?_) (fun ht42 => ?_)
            · refine W_seq ?_; refine W_region ?_; refine op rfl (r_assignV (v := .bool _) rfl) ?_; refine WL_nil ?_; refine W_ret (blk_ret (blk_ret (finX_ret ?_))); refine fin1 ?_
              first
                | exact ⟨_, rfl, bool_ff (fun h => by have := h.1; omega), hX⟩
                | exact ⟨_, rfl, bool_iff ⟨fun h => ⟨by omega, fun k hk => hok k hk hk, h⟩, fun h => h.2.2⟩, hX⟩
                | exact ⟨_, rfl, bool_ff (fun h => by
                    obtain ⟨q1, q2, q3⟩ := h.2.1 i hlt
                    first | exact hg22 q1 | exact hg37 (q2 (by omega)) | omega), hX⟩
            · have hfi : fileOk l i hlt := ⟨Classical.not_not.1 hg22, fun h0 => by first | exact Classical.not_not.1 hg37 | omega, by omega⟩; refine W_skip ?_; refine W_seq ?_; refine W_region ?_; refine op rfl (r_fieldAddr rfl Tryd.fld35_0 rfl) ?_; refine op rfl (r_load (v := .string _) rfl Tryd.underlying9 rfl (Blk.cell B6_3 rfl)) ?_; have M9 := (((M3.ext E6_3).chg C6_5 (by have := M3.lt; omega)).ext hD).ext hE72; refine opCv rfl (r_call Tryd.func62 Tryd.nm62 rfl) (dir_spec l[i].p _ (by omega)) ?_; rintro v w9 ⟨rfl, hE⟩; replace B3_1 := Blk.ext B3_1 hE; replace B6_3 := Blk.ext B6_3 hE; replace hX := hX.trans hE; replace M9 := M9.ext hE; refine op rfl (r_assignV (v := .string _) rfl) ?_; refine WL_nil ?_; refine W_block ?_; refine W_loop [6, 46, 47, 48, 49, 50, 51] (fun q e' w' => ∃ (d : List UInt8) (f : Value → Option Value) (P : List UInt8 → Prop), q = d.length ∧ e' 6 = .string (str d) ∧ d.length ≤ 140737488355328 ∧ Blk w' b3_1 #[.map (some m)] 134 ∧ MapAt .string w' m f ∧ DirsF f P ∧ (∀ s, (P s ∨ s ∈ dirsT d) ↔ ((∃ k, ∃ h : k < l.length, k < i ∧ s ∈ dirsT (dirP l[k].p)) ∨ s ∈ dirsT (dirP l[i].p))) ∧ Ext w w') ((dirP l[i].p).length) ?_ ?_
              · exact ⟨_, f, _, rfl, rfl, Nat.le_trans (dir_le _) hpl, B3_1, M9, hF, fun s => Iff.rfl, hX⟩
              intro k g w' hI; obtain ⟨d, f2, P, hq2, h6, hdl, B3', M4, hF2, hiff, hX'⟩ := hI; clear hX B3_1 M3; have hX := hX'; have B3_1 := B3'; clear B3' hX'; refine W_set (i := 6) h6 ?_; refine W_seq ?_; refine W_seq ?_; refine W_region ?_; refine op rfl (r_moveV (v := .string _) rfl) ?_; refine op rfl (rt_neq rfl rfl) ?_; refine WL_nil ?_; refine W_ifp rfl (fun ht47 => ?_) (fun ht47 => ?_)
              · refine W_skip ?_; refine W_seq ?_; refine W_block ?_; refine W_region ?_; refine op rfl (r_load (v := .map (some m)) rfl Tryd.underlying134 rfl (Blk.cell B3_1 rfl)) ?_; refine op rfl (r_moveV (v := .string _) rfl) ?_; refine op_updateK (v := .bool true) (k := .string (str d)) (by rfl) (by rfl) (by rfl) Tryd.underlying134 Tryd.underlying9 (by trivial) M4 ?_; intro w12 C12 M12; replace hX := Chg.ext hX hGm C12; replace B3_1 := Chg.blk C12 B3_1 (fun q => M4.ne_cells B3_1 q.symm); refine WL_nil ?_; refine W_region ?_; refine op rfl (r_moveV (v := .string _) rfl) ?_; refine opCv rfl (r_call Tryd.func62 Tryd.nm62 rfl) (dir_spec d _ (by omega)) ?_; rintro v w13 ⟨rfl, hE⟩; replace B3_1 := Blk.ext B3_1 hE; replace hX := hX.trans hE; have M13 := M12.ext hE; refine op rfl (r_assignV (v := .string _) rfl) ?_; refine WL_nil ?_; refine ⟨?_, by repeat (first | with_reducible exact Out.refl _ _ | with_reducible exact Out.mix | refine Out.put rfl ?_ | refine Out.mixin rfl ?_ | exact Out.refl _ _ | exact Out.mix)⟩; exact ⟨(dirP d).length, by have := dir_lt ht47; omega, dirP d, _, _, rfl, rfl, Nat.le_trans (dir_le d) hdl, B3_1, M13, hF2.put d, fun s => by rw [← hiff s, dirs_cons ht47, List.mem_cons, or_assoc], hX⟩
              · have hd0 : d = [] := Classical.not_not.1 ht47; subst hd0; refine W_exit (blk_hit ?_); refine W_region ?_; refine op rfl (r_add' rfl rfl (wrap_i64 (by omega) (by omega))) ?_; refine op rfl (r_moveV (v := .int _ _) rfl) ?_; refine WL_nil ?_; refine ⟨?_, by repeat (first | with_reducible exact Out.refl _ _ | with_reducible exact Out.mix | refine Out.put rfl ?_ | refine Out.mixin rfl ?_ | exact Out.refl _ _ | exact Out.mix)⟩; refine ⟨l.length - (i + 1), by omega, i + 1, f2, rfl, by omega, rfl, B3_1, M4, hF2.imp (fun s => ?_), fun k h hk => ?_, hX⟩
                · have := hiff s
                  rw [dirs_nil] at this
                  simp only [List.not_mem_nil, or_false] at this
                  rw [this]
                  constructor
                  · rintro (⟨k, h, h1, h2⟩ | h)
                    · exact ⟨k, h, by omega, h2⟩
                    · exact ⟨i, hlt, by omega, h⟩
                  · rintro ⟨k, h, h1, h2⟩
                    by_cases hki : k = i
                    · subst hki; exact Or.inr h2
                    · exact Or.inl ⟨k, h, by omega, h2⟩
                · by_cases hki : k = i
                  · subst hki; exact hfi
                  · exact hok k h (by omega)
        · refine A_skip (i := 8) rfl (by kernel_rfl) (by kernel_rfl) (by kernel_rfl) rfl hS rfl rfl rfl rfl ?_; refine A_skip (i := 9) rfl (by kernel_rfl) (by kernel_rfl) (by kernel_rfl) rfl hS rfl rfl rfl rfl ?_; refine A_skip (i := 10) rfl (by kernel_rfl) (by kernel_rfl) (by kernel_rfl) rfl hS rfl rfl rfl rfl ?_; refine A_skip (i := 11) rfl (by kernel_rfl) (by kernel_rfl) (by kernel_rfl) rfl hS rfl rfl rfl rfl ?_; refine A_skip (i := 12) rfl (by kernel_rfl) (by kernel_rfl) (by kernel_rfl) rfl hS rfl rfl rfl rfl ?_; refine A_skip (i := 13) rfl (by kernel_rfl) (by kernel_rfl) (by kernel_rfl) rfl hS rfl rfl rfl rfl ?_; refine A_skip (i := 14) rfl (by kernel_rfl) (by kernel_rfl) (by kernel_rfl) rfl hS rfl rfl rfl rfl ?_; refine A_skip (i := 15) rfl (by kernel_rfl) (by kernel_rfl) (by kernel_rfl) rfl hS rfl rfl rfl rfl ?_; refine A_skip (i := 16) rfl (by kernel_rfl) (by kernel_rfl) (by kernel_rfl) rfl hS rfl rfl rfl rfl ?_; refine A_takeG (i := 17) rfl (by kernel_rfl) (by kernel_rfl) (by kernel_rfl) rfl hS rfl rfl rfl rfl (fun _ hw => r_pickFV (v := .bool _) rfl rfl) ?_; refine A_take (i := 18) rfl (by kernel_rfl) (by kernel_rfl) (by kernel_rfl) rfl hS (fun _ hw => r_pickFV (v := .bool _) rfl rfl) ?_; refine A_take (i := 19) rfl (by kernel_rfl) (by kernel_rfl) (by kernel_rfl) rfl hS (fun _ hw => r_moveV (v := .bool _) rfl) ?_; refine A_takeG (i := 20) rfl (by kernel_rfl) (by kernel_rfl) (by kernel_rfl) rfl hS rfl rfl rfl rfl (fun _ hw => r_fieldAddr rfl Tryd.fld35_1 rfl) ?_; refine A_takeG (i := 21) rfl (by kernel_rfl) (by kernel_rfl) (by kernel_rfl) rfl hS rfl rfl rfl rfl (fun _ hw => r_load (v := .slice Ai l[i].b.length ci) rfl Tryd.underlying24 rfl (Blk.cell (Blk.at DB6_3 (hw.2 _ (Or.inr (Or.inl rfl)))) rfl)) ?_; refine A_takeG (i := 22) rfl (by kernel_rfl) (by kernel_rfl) (by kernel_rfl) rfl hS rfl rfl rfl rfl (fun _ hw => r_len_slice rfl Tryd.underlying24) ?_; refine A_takeG (i := 23) rfl (by kernel_rfl) (by kernel_rfl) (by kernel_rfl) rfl hS rfl rfl rfl rfl (fun _ hw => r_gtr rfl rfl) ?_; refine A_take (i := 24) rfl (by kernel_rfl) (by kernel_rfl) (by kernel_rfl) rfl hS (fun _ hw => r_pickFV (v := .bool _) rfl rfl) ?_; refine A_done (by kernel_rfl) ?_; refine W_ifp rfl (fun ht42 => ?_) (fun ht42 => ?_)
          · refine W_seq ?_; refine W_region ?_; refine op rfl (r_assignV (v := .bool _) rfl) ?_; refine WL_nil ?_; refine W_ret (blk_ret (blk_ret (finX_ret ?_))); refine fin1 ?_
            first
              | exact ⟨_, rfl, bool_ff (fun h => by have := h.1; omega), hX⟩
              | exact ⟨_, rfl, bool_iff ⟨fun h => ⟨by omega, fun k hk => hok k hk hk, h⟩, fun h => h.2.2⟩, hX⟩
              | exact ⟨_, rfl, bool_ff (fun h => by
                  obtain ⟨q1, q2, q3⟩ := h.2.1 i hlt
                  first | exact hg22 q1 | exact hg37 (q2 (by omega)) | omega), hX⟩
          · have hfi : fileOk l i hlt := ⟨Classical.not_not.1 hg22, fun h0 => by first | exact Classical.not_not.1 hg37 | omega, by omega⟩; refine W_skip ?_; refine W_seq ?_; refine W_region ?_; refine op rfl (r_fieldAddr rfl Tryd.fld35_0 rfl) ?_; refine op rfl (r_load (v := .string _) rfl Tryd.underlying9 rfl (Blk.cell B6_3 rfl)) ?_; have M9 := (((M3.ext E6_3).chg C6_5 (by have := M3.lt; omega)).ext hD).ext hE72; refine opCv rfl (r_call Tryd.func62 Tryd.nm62 rfl) (dir_spec l[i].p _ (by omega)) ?_; rintro v w9 ⟨rfl, hE⟩; replace B3_1 := Blk.ext B3_1 hE; replace B6_3 := Blk.ext B6_3 hE; replace hX := hX.trans hE; replace M9 := M9.ext hE; refine op rfl (r_assignV (v := .string _) rfl) ?_; refine WL_nil ?_; refine W_block ?_; refine W_loop [6, 46, 47, 48, 49, 50, 51] (fun q e' w' => ∃ (d : List UInt8) (f : Value → Option Value) (P : List UInt8 → Prop), q = d.length ∧ e' 6 = .string (str d) ∧ d.length ≤ 140737488355328 ∧ Blk w' b3_1 #[.map (some m)] 134 ∧ MapAt .string w' m f ∧ DirsF f P ∧ (∀ s, (P s ∨ s ∈ dirsT d) ↔ ((∃ k, ∃ h : k < l.length, k < i ∧ s ∈ dirsT (dirP l[k].p)) ∨ s ∈ dirsT (dirP l[i].p))) ∧ Ext w w') ((dirP l[i].p).length) ?_ ?_
            · exact ⟨_, f, _, rfl, rfl, Nat.le_trans (dir_le _) hpl, B3_1, M9, hF, fun s => Iff.rfl, hX⟩
            intro k g w' hI; obtain ⟨d, f2, P, hq2, h6, hdl, B3', M4, hF2, hiff, hX'⟩ := hI; clear hX B3_1 M3; have hX := hX'; have B3_1 := B3'; clear B3' hX'; refine W_set (i := 6) h6 ?_; refine W_seq ?_; refine W_seq ?_; refine W_region ?_; refine op rfl (r_moveV (v := .string _) rfl) ?_; refine op rfl (rt_neq rfl rfl) ?_; refine WL_nil ?_; refine W_ifp rfl (fun ht47 => ?_) (fun ht47 => ?_)
            · refine W_skip ?_; refine W_seq ?_; refine W_block ?_; refine W_region ?_; refine op rfl (r_load (v := .map (some m)) rfl Tryd.underlying134 rfl (Blk.cell B3_1 rfl)) ?_; refine op rfl (r_moveV (v := .string _) rfl) ?_; refine op_updateK (v := .bool true) (k := .string (str d)) (by rfl) (by rfl) (by rfl) Tryd.underlying134 Tryd.underlying9 (by trivial) M4 ?_; intro w12 C12 M12; replace hX := Chg.ext hX hGm C12; replace B3_1 := Chg.blk C12 B3_1 (fun q => M4.ne_cells B3_1 q.symm); refine WL_nil ?_; refine W_region ?_; refine op rfl (r_moveV (v := .string _) rfl) ?_; refine opCv rfl (r_call Tryd.func62 Tryd.nm62 rfl) (dir_spec d _ (by omega)) ?_; rintro v w13 ⟨rfl, hE⟩; replace B3_1 := Blk.ext B3_1 hE; replace hX := hX.trans hE; have M13 := M12.ext hE; refine op rfl (r_assignV (v := .string _) rfl) ?_; refine WL_nil ?_; refine ⟨?_, by repeat (first | with_reducible exact Out.refl _ _ | with_reducible exact Out.mix | refine Out.put rfl ?_ | refine Out.mixin rfl ?_ | exact Out.refl _ _ | exact Out.mix)⟩; exact ⟨(dirP d).length, by have := dir_lt ht47; omega, dirP d, _, _, rfl, rfl, Nat.le_trans (dir_le d) hdl, B3_1, M13, hF2.put d, fun s => by rw [← hiff s, dirs_cons ht47, List.mem_cons, or_assoc], hX⟩
            · have hd0 : d = [] := Classical.not_not.1 ht47; subst hd0; refine W_exit (blk_hit ?_); refine W_region ?_; refine op rfl (r_add' rfl rfl (wrap_i64 (by omega) (by omega))) ?_; refine op rfl (r_moveV (v := .int _ _) rfl) ?_; refine WL_nil ?_; refine ⟨?_, by repeat (first | with_reducible exact Out.refl _ _ | with_reducible exact Out.mix | refine Out.put rfl ?_ | refine Out.mixin rfl ?_ | exact Out.refl _ _ | exact Out.mix)⟩; refine ⟨l.length - (i + 1), by omega, i + 1, f2, rfl, by omega, rfl, B3_1, M4, hF2.imp (fun s => ?_), fun k h hk => ?_, hX⟩
              · have := hiff s
                rw [dirs_nil] at this
                simp only [List.not_mem_nil, or_false] at this
                rw [this]
                constructor
                · rintro (⟨k, h, h1, h2⟩ | h)
                  · exact ⟨k, h, by omega, h2⟩
                  · exact ⟨i, hlt, by omega, h⟩
                · rintro ⟨k, h, h1, h2⟩
                  by_cases hki : k = i
                  · subst hki; exact Or.inr h2
                  · exact Or.inl ⟨k, h, by omega, h2⟩
              · by_cases hki : k = i
                · subst hki; exact hfi
                · exact hok k h (by omega)
    · obtain rfl : i = l.length := by omega
      refine W_exit (blk_hit ?_); refine W_seq ?_; refine W_region ?_; refine op rfl (r_moveV (v := .slice _ _ _) rfl) ?_; refine op rfl (r_makeFunc) ?_; refine opCv rfl (r_call Tryd.func63 Tryd.nm63 rfl) (hcon hX B3_1 M3 hF) ?_; rintro v w14 ⟨rfl, hE⟩; replace B3_1 := Blk.ext B3_1 hE; replace hX := hX.trans hE; refine op rfl (r_notP rfl) ?_; refine op rfl (r_assignV (v := .bool _) rfl) ?_; refine WL_nil ?_; refine W_ret (finX_ret ?_); refine fin1 ?_
      first
        | exact ⟨_, rfl, bool_ff (fun h => by have := h.1; omega), hX⟩
        | exact ⟨_, rfl, bool_iff ⟨fun h => ⟨by omega, fun k hk => hok k hk hk, h⟩, fun h => h.2.2⟩, hX⟩
        | exact ⟨_, rfl, bool_ff (fun h => by
            obtain ⟨q1, q2, q3⟩ := h.2.1 i hlt
            first | exact hg22 q1 | exact hg37 (q2 (by omega)) | omega), hX⟩
def longB (r : List Value) : Bool := match r with
  | .string _ :: .slice _ n _ :: _ => decide (65536 < n)
  | _ => false
theorem long_pred : PredC 67 [] longB FileR (fun _ => True) := by
  refine ⟨⟨_, Tryd.func67, Tryd.nm67, rfl⟩, ?_, fun _ _ _ _ => trivial⟩; rintro r W ⟨q, A, n, c, rfl⟩ -
  show Calls Tryd.prog 67 #[.agg #[.string q, .slice A n c]] W _
  refine calls' (n := 7) (rs := #[.tmp 2]) (l := [.agg #[.string q, .slice A n c]]) Tryd.func67 rfl rfl rfl rfl rfl ?_; have hX := Ext.refl W; refine W_seq ?_; refine W_region ?_; refine op_box (v := .agg _) rfl rfl ?_; intro w0_0 b0_0 E0_0 B0_0 L0_0
  have hG0_0 : W.heap.size ≤ b0_0 := by have := hX.size; omega
  replace hX := hX.trans E0_0; refine op rfl (r_assignV (v := .bool _) rfl) ?_; refine WL_nil ?_; refine W_seq ?_; refine W_region ?_; refine op rfl (r_fieldAddr rfl Tryd.fld35_1 rfl) ?_; refine op rfl (r_load (v := .slice A n c) rfl Tryd.underlying24 rfl (Blk.cell B0_0 rfl)) ?_; refine op rfl (r_len_slice rfl Tryd.underlying24) ?_; refine op rfl (r_gtr rfl rfl) ?_; refine op rfl (r_assignV (v := .bool _) rfl) ?_; refine WL_nil ?_; refine W_ret (finX_ret ?_); refine fin1 ?_; exact ⟨_, rfl, bool_iff (by show (n : Int) > 65536 ↔ decide (65536 < n) = true; rw [decide_eq_true_iff]; omega), hX⟩
theorem containsLong {A : Option Addr} {cap : Nat} {t : Tree} {w : World} (hr : fiT.Row w (old w) A t) (hl : t.length ≤ 140737488355328) :
    Calls Tryd.prog 63 #[.slice A t.length cap, .func (.func 67) #[] #[]] w (fun en w' => ∃ v, en = .returned v ∧ v = .bool (decide (∃ x ∈ t, 65536 < x.b.length)) ∧ Ext w w') := by
  obtain ⟨rs, hal, hrr⟩ := Row.raw hr; have hlen := hal.len
  have hFi : ∀ r ∈ rs, FileR r := fun r hr => by
    obtain ⟨x, _, hx⟩ := hal.mem hr; exact fi_raw hx
  have h := containsFunc_spec (cap := cap) long_pred hrr hFi trivial (by omega)
  have hany : rs.any longB = decide (∃ x ∈ t, 65536 < x.b.length) := by
    have h := Al.all (p := fun x : Fi => decide (65536 < x.b.length)) (q := longB) (fun x r h => by
      obtain ⟨A, c, rfl, _⟩ := fi_cells h
      rfl) hal
    rw [← h, Bool.eq_iff_iff, List.any_eq_true, decide_eq_true_iff]
    simp
  rw [hany, ← hlen] at h
  exact h
end Go.Proofs.YtmedmajdoecjfaaDoor
