/-
  The walks of package journal: Checkpoint.
-/
import Derived.Test.YtlidigdlcjhkfaaFacts
import Derived.Test.YtlidigdlcjhkfaaJnlC
namespace Go.Proofs.Ytlidigdlcjhkfaa
open Go Go.Eng Go.RowKit Go.Proofs
set_option linter.unusedVariables false
set_option linter.unusedSimpArgs false
set_option maxHeartbeats 4000000

/-- All but one. -/
abbrev But (F : Nat → Prop) (j : Nat) : Nat → Prop := fun b => F b ∧ b ≠ j
theorem JA.pb {jb p B : Nat} {F : Nat → Prop} {w : World} {D : Dk} {s : Nat} (h : JA jb p B F w D s) : jb < w.heap.size := Blk.lt h.bj
theorem JA.gro {jb p B : Nat} {F : Nat → Prop} {w w' : World} {D : Dk} {s : Nat} {v v' : Value} (h : JA jb p B F w D s) (hG : Gro v.ownBlock w w') (hF : ∀ b, v.ownBlock = some b → F b ∧ b ≠ jb) (hv : v'.ownBlock = v.ownBlock ∨ ∃ g, v'.ownBlock = some g ∧ w.heap.size ≤ g) (hlt : ∀ b, v'.ownBlock = some b → b < w'.heap.size) :
    JA jb p B (fun b => F b ∨ v'.ownBlock = some b) w' D s :=
  ⟨h.bj.at (hG.block jb (Blk.lt h.bj) (fun q => (hF jb q).2 rfl)), h.fa.gro (fun b q => (hF b q).1) hG hv hlt, Or.inl h.fj, h.lo⟩
theorem ckpt1_spec {jb p B b0 b1 : Nat} {F : Nat → Prop} {w : World} {D : Dk} {s : Nat} (h : JA jb p B F w D s) {k : Nat} (hw : WF D k) (hk : k ≤ 268435456) (n : Nat) (B0 : Blk w b0 #[jq jb] 27) (B1 : Blk w b1 #[.int .i64 n] 3) :
    Calls Try.prog 38 #[.pointer (some ⟨b0, 0, none⟩), .pointer (some ⟨b1, 0, none⟩)] w (fun en w' => ∃ v, en = .returned v ∧ v = .int .i64 (D.cut n 0).2 ∧ JA jb p B F w' (D.cut n 0).1 s ∧ Fo B F w w') := by
  have hbj := h.bj
  refine calls' (n := 9) (rs := #[.tmp 2]) (l := [.pointer (some ⟨b0, 0, none⟩), .pointer (some ⟨b1, 0, none⟩)]) Try.func38 rfl rfl rfl rfl rfl ?_
  have hX := Ext.refl w
  refine W_seq ?_
  refine W_region ?_
  refine op rfl (r_assignV (v := .int _ _) rfl) ?_
  refine WL_nil ?_
  refine W_seq ?_
  refine W_drawA Try.wd rfl ?_
  intro wd1 hD
  have hS : anyW wd1 := trivial
  replace B0 := Blk.ext B0 hD
  replace B1 := Blk.ext B1 hD
  replace hbj := Blk.ext hbj hD
  replace hX := hX.trans hD
  refine A_ready2 (i := 0) (j := 4) (by kernel_rfl) ?_ ?_
  · refine O_val rfl rfl (r_load (v := .pointer _) rfl Try.underlying27 rfl (Blk.cell B0 rfl)) (hS) ?_
    refine A_take (i := 1) rfl (by kernel_rfl) (by kernel_rfl) (by kernel_rfl) rfl hS (fun _ hw => r_nilCheck rfl) ?_
    refine A_take (i := 2) rfl (by kernel_rfl) (by kernel_rfl) (by kernel_rfl) rfl hS (fun _ hw => r_fieldAddr rfl Try.fld64_0 rfl) ?_
    refine A_ready2 (i := 3) (j := 4) (by kernel_rfl) ?_ ?_
    · refine O_val rfl rfl (r_load (v := .pointer _) rfl Try.underlying25 rfl (Blk.cell hbj rfl)) (hS) ?_
      refine A_ready1 (i := 4) (by kernel_rfl) ?_
      refine O_val rfl rfl (r_load (v := .int _ _) rfl Try.underlying3 rfl (Blk.cell B1 rfl)) (hS) ?_
      refine A_ready1 (i := 5) (by kernel_rfl) ?_
      refine O_call rfl rfl (r_call Try.func30 Try.nm30 rfl) (cut_fa (h.fa.ext hX) hw (by omega) n 0) ?_
      rintro v w2 ⟨rfl, hFA, hFo⟩
      replace hS := trivial
      refine ⟨hS, ?_⟩
      refine A_take (i := 6) rfl (by kernel_rfl) (by kernel_rfl) (by kernel_rfl) rfl hS (fun _ hw => r_assignV (v := .int _ _) rfl) ?_
      refine A_done (by kernel_rfl) ?_
      refine W_ret (finX_ret ?_)
      refine fin1 ?_
      have hFo' : Fo B F w w2 := hFo.pre h.fa.lt h.fa.le hX
      exact ⟨_, rfl, rfl, h.op hFA hFo', hFo'⟩
    · refine O_val rfl rfl (r_load (v := .int _ _) rfl Try.underlying3 rfl (Blk.cell B1 rfl)) (hS) ?_
      refine A_ready1 (i := 3) (by kernel_rfl) ?_
      refine O_val rfl rfl (r_load (v := .pointer _) rfl Try.underlying25 rfl (Blk.cell hbj rfl)) (hS) ?_
      refine A_ready1 (i := 5) (by kernel_rfl) ?_
      refine O_call rfl rfl (r_call Try.func30 Try.nm30 rfl) (cut_fa (h.fa.ext hX) hw (by omega) n 0) ?_
      rintro v w2 ⟨rfl, hFA, hFo⟩
      replace hS := trivial
      refine ⟨hS, ?_⟩
      refine A_take (i := 6) rfl (by kernel_rfl) (by kernel_rfl) (by kernel_rfl) rfl hS (fun _ hw => r_assignV (v := .int _ _) rfl) ?_
      refine A_done (by kernel_rfl) ?_
      refine W_ret (finX_ret ?_)
      refine fin1 ?_
      have hFo' : Fo B F w w2 := hFo.pre h.fa.lt h.fa.le hX
      exact ⟨_, rfl, rfl, h.op hFA hFo', hFo'⟩
  · refine O_val rfl rfl (r_load (v := .int _ _) rfl Try.underlying3 rfl (Blk.cell B1 rfl)) (hS) ?_
    refine A_ready1 (i := 0) (by kernel_rfl) ?_
    refine O_val rfl rfl (r_load (v := .pointer _) rfl Try.underlying27 rfl (Blk.cell B0 rfl)) (hS) ?_
    refine A_take (i := 1) rfl (by kernel_rfl) (by kernel_rfl) (by kernel_rfl) rfl hS (fun _ hw => r_nilCheck rfl) ?_
    refine A_take (i := 2) rfl (by kernel_rfl) (by kernel_rfl) (by kernel_rfl) rfl hS (fun _ hw => r_fieldAddr rfl Try.fld64_0 rfl) ?_
    refine A_ready1 (i := 3) (by kernel_rfl) ?_
    refine O_val rfl rfl (r_load (v := .pointer _) rfl Try.underlying25 rfl (Blk.cell hbj rfl)) (hS) ?_
    refine A_ready1 (i := 5) (by kernel_rfl) ?_
    refine O_call rfl rfl (r_call Try.func30 Try.nm30 rfl) (cut_fa (h.fa.ext hX) hw (by omega) n 0) ?_
    rintro v w2 ⟨rfl, hFA, hFo⟩
    replace hS := trivial
    refine ⟨hS, ?_⟩
    refine A_take (i := 6) rfl (by kernel_rfl) (by kernel_rfl) (by kernel_rfl) rfl hS (fun _ hw => r_assignV (v := .int _ _) rfl) ?_
    refine A_done (by kernel_rfl) ?_
    refine W_ret (finX_ret ?_)
    refine fin1 ?_
    have hFo' : Fo B F w w2 := hFo.pre h.fa.lt h.fa.le hX
    exact ⟨_, rfl, rfl, h.op hFA hFo', hFo'⟩
theorem ckpt2_spec {jb p B b0 b1 b2 : Nat} {F : Nat → Prop} {w : World} {D : Dk} {s : Nat} (h : JA jb p B F w D s) {k : Nat} (hw : WF D k) (hk : k ≤ 268435456) (n : Nat) (B0 : Blk w b0 #[jq jb] 27) (B1 : Blk w b1 #[.int .i64 n] 3)
    (A : Option Addr) (c : Nat) (b : List UInt8) (hbl : b.length ≤ 140737488355328) (B2 : Blk w b2 #[.slice A b.length c] 23) {G : Nat → Prop} (hG : ∀ x, G x → F x) (hA : Ty.byte.Row w G A b) :
    Calls Try.prog 39 #[.pointer (some ⟨b0, 0, none⟩), .pointer (some ⟨b1, 0, none⟩), .pointer (some ⟨b2, 0, none⟩)] w (fun en w' => ∃ v, en = .returned v ∧ v = .int .i64 (D.append n b).2 ∧ JA jb p B F w' (D.append n b).1 s ∧ Fo B F w w') := by
  have hbj := h.bj
  have hlt := h.fa.lt
  refine calls' (n := 11) (rs := #[.tmp 3]) (l := [.pointer (some ⟨b0, 0, none⟩), .pointer (some ⟨b1, 0, none⟩), .pointer (some ⟨b2, 0, none⟩)]) Try.func39 rfl rfl rfl rfl rfl ?_
  have hX := Ext.refl w
  refine W_seq ?_
  refine W_region ?_
  refine op rfl (r_assignV (v := .int _ _) rfl) ?_
  refine WL_nil ?_
  refine W_seq ?_
  refine W_drawA Try.wd rfl ?_
  intro wd1 hD
  have hS : anyW wd1 := trivial
  replace B0 := Blk.ext B0 hD
  replace B1 := Blk.ext B1 hD
  replace B2 := Blk.ext B2 hD
  replace hbj := Blk.ext hbj hD
  replace hX := hX.trans hD
  refine A_ready3 (i := 0) (j := 4) (k := 5) (by kernel_rfl) ?_ ?_ ?_
  · refine O_val rfl rfl (r_load (v := .pointer _) rfl Try.underlying27 rfl (Blk.cell B0 rfl)) (hS) ?_
    refine A_take (i := 1) rfl (by kernel_rfl) (by kernel_rfl) (by kernel_rfl) rfl hS (fun _ hw => r_nilCheck rfl) ?_
    refine A_take (i := 2) rfl (by kernel_rfl) (by kernel_rfl) (by kernel_rfl) rfl hS (fun _ hw => r_fieldAddr rfl Try.fld64_0 rfl) ?_
    refine A_ready3 (i := 3) (j := 4) (k := 5) (by kernel_rfl) ?_ ?_ ?_
    · refine O_val rfl rfl (r_load (v := .pointer _) rfl Try.underlying25 rfl (Blk.cell hbj rfl)) (hS) ?_
      refine A_ready2 (i := 4) (j := 5) (by kernel_rfl) ?_ ?_
      · refine O_val rfl rfl (r_load (v := .int _ _) rfl Try.underlying3 rfl (Blk.cell B1 rfl)) (hS) ?_
        refine A_ready1 (i := 5) (by kernel_rfl) ?_
        refine O_val rfl rfl (r_load (v := .slice _ _ _) rfl Try.underlying23 rfl (Blk.cell B2 rfl)) (hS) ?_
        refine A_ready1 (i := 6) (by kernel_rfl) ?_
        refine O_call rfl rfl (r_call Try.func11 Try.nm11 rfl) (append_faF (h.fa.ext hX) hw (by omega) n A c b hbl hG (hA.keep (fun x hx ↦ hX.block x (hlt x (hG x hx))) (fun _ h ↦ h))) ?_
        rintro v w2 ⟨rfl, hFA, hFo⟩
        replace hS := trivial
        refine ⟨hS, ?_⟩
        refine A_take (i := 7) rfl (by kernel_rfl) (by kernel_rfl) (by kernel_rfl) rfl hS (fun _ hw => r_assignV (v := .int _ _) rfl) ?_
        refine A_done (by kernel_rfl) ?_
        refine W_ret (finX_ret ?_)
        refine fin1 ?_
        have hFo' : Fo B F w w2 := hFo.pre h.fa.lt h.fa.le hX
        exact ⟨_, rfl, rfl, h.op hFA hFo', hFo'⟩
      · refine O_val rfl rfl (r_load (v := .slice _ _ _) rfl Try.underlying23 rfl (Blk.cell B2 rfl)) (hS) ?_
        refine A_ready1 (i := 4) (by kernel_rfl) ?_
        refine O_val rfl rfl (r_load (v := .int _ _) rfl Try.underlying3 rfl (Blk.cell B1 rfl)) (hS) ?_
        refine A_ready1 (i := 6) (by kernel_rfl) ?_
        refine O_call rfl rfl (r_call Try.func11 Try.nm11 rfl) (append_faF (h.fa.ext hX) hw (by omega) n A c b hbl hG (hA.keep (fun x hx ↦ hX.block x (hlt x (hG x hx))) (fun _ h ↦ h))) ?_
        rintro v w2 ⟨rfl, hFA, hFo⟩
        replace hS := trivial
        refine ⟨hS, ?_⟩
        refine A_take (i := 7) rfl (by kernel_rfl) (by kernel_rfl) (by kernel_rfl) rfl hS (fun _ hw => r_assignV (v := .int _ _) rfl) ?_
        refine A_done (by kernel_rfl) ?_
        refine W_ret (finX_ret ?_)
        refine fin1 ?_
        have hFo' : Fo B F w w2 := hFo.pre h.fa.lt h.fa.le hX
        exact ⟨_, rfl, rfl, h.op hFA hFo', hFo'⟩
    · refine O_val rfl rfl (r_load (v := .int _ _) rfl Try.underlying3 rfl (Blk.cell B1 rfl)) (hS) ?_
      refine A_ready2 (i := 3) (j := 5) (by kernel_rfl) ?_ ?_
      · refine O_val rfl rfl (r_load (v := .pointer _) rfl Try.underlying25 rfl (Blk.cell hbj rfl)) (hS) ?_
        refine A_ready1 (i := 5) (by kernel_rfl) ?_
        refine O_val rfl rfl (r_load (v := .slice _ _ _) rfl Try.underlying23 rfl (Blk.cell B2 rfl)) (hS) ?_
        refine A_ready1 (i := 6) (by kernel_rfl) ?_
        refine O_call rfl rfl (r_call Try.func11 Try.nm11 rfl) (append_faF (h.fa.ext hX) hw (by omega) n A c b hbl hG (hA.keep (fun x hx ↦ hX.block x (hlt x (hG x hx))) (fun _ h ↦ h))) ?_
        rintro v w2 ⟨rfl, hFA, hFo⟩
        replace hS := trivial
        refine ⟨hS, ?_⟩
        refine A_take (i := 7) rfl (by kernel_rfl) (by kernel_rfl) (by kernel_rfl) rfl hS (fun _ hw => r_assignV (v := .int _ _) rfl) ?_
        refine A_done (by kernel_rfl) ?_
        refine W_ret (finX_ret ?_)
        refine fin1 ?_
        have hFo' : Fo B F w w2 := hFo.pre h.fa.lt h.fa.le hX
        exact ⟨_, rfl, rfl, h.op hFA hFo', hFo'⟩
      · refine O_val rfl rfl (r_load (v := .slice _ _ _) rfl Try.underlying23 rfl (Blk.cell B2 rfl)) (hS) ?_
        refine A_ready1 (i := 3) (by kernel_rfl) ?_
        refine O_val rfl rfl (r_load (v := .pointer _) rfl Try.underlying25 rfl (Blk.cell hbj rfl)) (hS) ?_
        refine A_ready1 (i := 6) (by kernel_rfl) ?_
        refine O_call rfl rfl (r_call Try.func11 Try.nm11 rfl) (append_faF (h.fa.ext hX) hw (by omega) n A c b hbl hG (hA.keep (fun x hx ↦ hX.block x (hlt x (hG x hx))) (fun _ h ↦ h))) ?_
        rintro v w2 ⟨rfl, hFA, hFo⟩
        replace hS := trivial
        refine ⟨hS, ?_⟩
        refine A_take (i := 7) rfl (by kernel_rfl) (by kernel_rfl) (by kernel_rfl) rfl hS (fun _ hw => r_assignV (v := .int _ _) rfl) ?_
        refine A_done (by kernel_rfl) ?_
        refine W_ret (finX_ret ?_)
        refine fin1 ?_
        have hFo' : Fo B F w w2 := hFo.pre h.fa.lt h.fa.le hX
        exact ⟨_, rfl, rfl, h.op hFA hFo', hFo'⟩
    · refine O_val rfl rfl (r_load (v := .slice _ _ _) rfl Try.underlying23 rfl (Blk.cell B2 rfl)) (hS) ?_
      refine A_ready2 (i := 3) (j := 4) (by kernel_rfl) ?_ ?_
      · refine O_val rfl rfl (r_load (v := .pointer _) rfl Try.underlying25 rfl (Blk.cell hbj rfl)) (hS) ?_
        refine A_ready1 (i := 4) (by kernel_rfl) ?_
        refine O_val rfl rfl (r_load (v := .int _ _) rfl Try.underlying3 rfl (Blk.cell B1 rfl)) (hS) ?_
        refine A_ready1 (i := 6) (by kernel_rfl) ?_
        refine O_call rfl rfl (r_call Try.func11 Try.nm11 rfl) (append_faF (h.fa.ext hX) hw (by omega) n A c b hbl hG (hA.keep (fun x hx ↦ hX.block x (hlt x (hG x hx))) (fun _ h ↦ h))) ?_
        rintro v w2 ⟨rfl, hFA, hFo⟩
        replace hS := trivial
        refine ⟨hS, ?_⟩
        refine A_take (i := 7) rfl (by kernel_rfl) (by kernel_rfl) (by kernel_rfl) rfl hS (fun _ hw => r_assignV (v := .int _ _) rfl) ?_
        refine A_done (by kernel_rfl) ?_
        refine W_ret (finX_ret ?_)
        refine fin1 ?_
        have hFo' : Fo B F w w2 := hFo.pre h.fa.lt h.fa.le hX
        exact ⟨_, rfl, rfl, h.op hFA hFo', hFo'⟩
      · refine O_val rfl rfl (r_load (v := .int _ _) rfl Try.underlying3 rfl (Blk.cell B1 rfl)) (hS) ?_
        refine A_ready1 (i := 3) (by kernel_rfl) ?_
        refine O_val rfl rfl (r_load (v := .pointer _) rfl Try.underlying25 rfl (Blk.cell hbj rfl)) (hS) ?_
        refine A_ready1 (i := 6) (by kernel_rfl) ?_
        refine O_call rfl rfl (r_call Try.func11 Try.nm11 rfl) (append_faF (h.fa.ext hX) hw (by omega) n A c b hbl hG (hA.keep (fun x hx ↦ hX.block x (hlt x (hG x hx))) (fun _ h ↦ h))) ?_
        rintro v w2 ⟨rfl, hFA, hFo⟩
        replace hS := trivial
        refine ⟨hS, ?_⟩
        refine A_take (i := 7) rfl (by kernel_rfl) (by kernel_rfl) (by kernel_rfl) rfl hS (fun _ hw => r_assignV (v := .int _ _) rfl) ?_
        refine A_done (by kernel_rfl) ?_
        refine W_ret (finX_ret ?_)
        refine fin1 ?_
        have hFo' : Fo B F w w2 := hFo.pre h.fa.lt h.fa.le hX
        exact ⟨_, rfl, rfl, h.op hFA hFo', hFo'⟩
  · refine O_val rfl rfl (r_load (v := .int _ _) rfl Try.underlying3 rfl (Blk.cell B1 rfl)) (hS) ?_
    refine A_ready2 (i := 0) (j := 5) (by kernel_rfl) ?_ ?_
    · refine O_val rfl rfl (r_load (v := .pointer _) rfl Try.underlying27 rfl (Blk.cell B0 rfl)) (hS) ?_
      refine A_take (i := 1) rfl (by kernel_rfl) (by kernel_rfl) (by kernel_rfl) rfl hS (fun _ hw => r_nilCheck rfl) ?_
      refine A_take (i := 2) rfl (by kernel_rfl) (by kernel_rfl) (by kernel_rfl) rfl hS (fun _ hw => r_fieldAddr rfl Try.fld64_0 rfl) ?_
      refine A_ready2 (i := 3) (j := 5) (by kernel_rfl) ?_ ?_
      · refine O_val rfl rfl (r_load (v := .pointer _) rfl Try.underlying25 rfl (Blk.cell hbj rfl)) (hS) ?_
        refine A_ready1 (i := 5) (by kernel_rfl) ?_
        refine O_val rfl rfl (r_load (v := .slice _ _ _) rfl Try.underlying23 rfl (Blk.cell B2 rfl)) (hS) ?_
        refine A_ready1 (i := 6) (by kernel_rfl) ?_
        refine O_call rfl rfl (r_call Try.func11 Try.nm11 rfl) (append_faF (h.fa.ext hX) hw (by omega) n A c b hbl hG (hA.keep (fun x hx ↦ hX.block x (hlt x (hG x hx))) (fun _ h ↦ h))) ?_
        rintro v w2 ⟨rfl, hFA, hFo⟩
        replace hS := trivial
        refine ⟨hS, ?_⟩
        refine A_take (i := 7) rfl (by kernel_rfl) (by kernel_rfl) (by kernel_rfl) rfl hS (fun _ hw => r_assignV (v := .int _ _) rfl) ?_
        refine A_done (by kernel_rfl) ?_
        refine W_ret (finX_ret ?_)
        refine fin1 ?_
        have hFo' : Fo B F w w2 := hFo.pre h.fa.lt h.fa.le hX
        exact ⟨_, rfl, rfl, h.op hFA hFo', hFo'⟩
      · refine O_val rfl rfl (r_load (v := .slice _ _ _) rfl Try.underlying23 rfl (Blk.cell B2 rfl)) (hS) ?_
        refine A_ready1 (i := 3) (by kernel_rfl) ?_
        refine O_val rfl rfl (r_load (v := .pointer _) rfl Try.underlying25 rfl (Blk.cell hbj rfl)) (hS) ?_
        refine A_ready1 (i := 6) (by kernel_rfl) ?_
        refine O_call rfl rfl (r_call Try.func11 Try.nm11 rfl) (append_faF (h.fa.ext hX) hw (by omega) n A c b hbl hG (hA.keep (fun x hx ↦ hX.block x (hlt x (hG x hx))) (fun _ h ↦ h))) ?_
        rintro v w2 ⟨rfl, hFA, hFo⟩
        replace hS := trivial
        refine ⟨hS, ?_⟩
        refine A_take (i := 7) rfl (by kernel_rfl) (by kernel_rfl) (by kernel_rfl) rfl hS (fun _ hw => r_assignV (v := .int _ _) rfl) ?_
        refine A_done (by kernel_rfl) ?_
        refine W_ret (finX_ret ?_)
        refine fin1 ?_
        have hFo' : Fo B F w w2 := hFo.pre h.fa.lt h.fa.le hX
        exact ⟨_, rfl, rfl, h.op hFA hFo', hFo'⟩
    · refine O_val rfl rfl (r_load (v := .slice _ _ _) rfl Try.underlying23 rfl (Blk.cell B2 rfl)) (hS) ?_
      refine A_ready1 (i := 0) (by kernel_rfl) ?_
      refine O_val rfl rfl (r_load (v := .pointer _) rfl Try.underlying27 rfl (Blk.cell B0 rfl)) (hS) ?_
      refine A_take (i := 1) rfl (by kernel_rfl) (by kernel_rfl) (by kernel_rfl) rfl hS (fun _ hw => r_nilCheck rfl) ?_
      refine A_take (i := 2) rfl (by kernel_rfl) (by kernel_rfl) (by kernel_rfl) rfl hS (fun _ hw => r_fieldAddr rfl Try.fld64_0 rfl) ?_
      refine A_ready1 (i := 3) (by kernel_rfl) ?_
      refine O_val rfl rfl (r_load (v := .pointer _) rfl Try.underlying25 rfl (Blk.cell hbj rfl)) (hS) ?_
      refine A_ready1 (i := 6) (by kernel_rfl) ?_
      refine O_call rfl rfl (r_call Try.func11 Try.nm11 rfl) (append_faF (h.fa.ext hX) hw (by omega) n A c b hbl hG (hA.keep (fun x hx ↦ hX.block x (hlt x (hG x hx))) (fun _ h ↦ h))) ?_
      rintro v w2 ⟨rfl, hFA, hFo⟩
      replace hS := trivial
      refine ⟨hS, ?_⟩
      refine A_take (i := 7) rfl (by kernel_rfl) (by kernel_rfl) (by kernel_rfl) rfl hS (fun _ hw => r_assignV (v := .int _ _) rfl) ?_
      refine A_done (by kernel_rfl) ?_
      refine W_ret (finX_ret ?_)
      refine fin1 ?_
      have hFo' : Fo B F w w2 := hFo.pre h.fa.lt h.fa.le hX
      exact ⟨_, rfl, rfl, h.op hFA hFo', hFo'⟩
  · refine O_val rfl rfl (r_load (v := .slice _ _ _) rfl Try.underlying23 rfl (Blk.cell B2 rfl)) (hS) ?_
    refine A_ready2 (i := 0) (j := 4) (by kernel_rfl) ?_ ?_
    · refine O_val rfl rfl (r_load (v := .pointer _) rfl Try.underlying27 rfl (Blk.cell B0 rfl)) (hS) ?_
      refine A_take (i := 1) rfl (by kernel_rfl) (by kernel_rfl) (by kernel_rfl) rfl hS (fun _ hw => r_nilCheck rfl) ?_
      refine A_take (i := 2) rfl (by kernel_rfl) (by kernel_rfl) (by kernel_rfl) rfl hS (fun _ hw => r_fieldAddr rfl Try.fld64_0 rfl) ?_
      refine A_ready2 (i := 3) (j := 4) (by kernel_rfl) ?_ ?_
      · refine O_val rfl rfl (r_load (v := .pointer _) rfl Try.underlying25 rfl (Blk.cell hbj rfl)) (hS) ?_
        refine A_ready1 (i := 4) (by kernel_rfl) ?_
        refine O_val rfl rfl (r_load (v := .int _ _) rfl Try.underlying3 rfl (Blk.cell B1 rfl)) (hS) ?_
        refine A_ready1 (i := 6) (by kernel_rfl) ?_
        refine O_call rfl rfl (r_call Try.func11 Try.nm11 rfl) (append_faF (h.fa.ext hX) hw (by omega) n A c b hbl hG (hA.keep (fun x hx ↦ hX.block x (hlt x (hG x hx))) (fun _ h ↦ h))) ?_
        rintro v w2 ⟨rfl, hFA, hFo⟩
        replace hS := trivial
        refine ⟨hS, ?_⟩
        refine A_take (i := 7) rfl (by kernel_rfl) (by kernel_rfl) (by kernel_rfl) rfl hS (fun _ hw => r_assignV (v := .int _ _) rfl) ?_
        refine A_done (by kernel_rfl) ?_
        refine W_ret (finX_ret ?_)
        refine fin1 ?_
        have hFo' : Fo B F w w2 := hFo.pre h.fa.lt h.fa.le hX
        exact ⟨_, rfl, rfl, h.op hFA hFo', hFo'⟩
      · refine O_val rfl rfl (r_load (v := .int _ _) rfl Try.underlying3 rfl (Blk.cell B1 rfl)) (hS) ?_
        refine A_ready1 (i := 3) (by kernel_rfl) ?_
        refine O_val rfl rfl (r_load (v := .pointer _) rfl Try.underlying25 rfl (Blk.cell hbj rfl)) (hS) ?_
        refine A_ready1 (i := 6) (by kernel_rfl) ?_
        refine O_call rfl rfl (r_call Try.func11 Try.nm11 rfl) (append_faF (h.fa.ext hX) hw (by omega) n A c b hbl hG (hA.keep (fun x hx ↦ hX.block x (hlt x (hG x hx))) (fun _ h ↦ h))) ?_
        rintro v w2 ⟨rfl, hFA, hFo⟩
        replace hS := trivial
        refine ⟨hS, ?_⟩
        refine A_take (i := 7) rfl (by kernel_rfl) (by kernel_rfl) (by kernel_rfl) rfl hS (fun _ hw => r_assignV (v := .int _ _) rfl) ?_
        refine A_done (by kernel_rfl) ?_
        refine W_ret (finX_ret ?_)
        refine fin1 ?_
        have hFo' : Fo B F w w2 := hFo.pre h.fa.lt h.fa.le hX
        exact ⟨_, rfl, rfl, h.op hFA hFo', hFo'⟩
    · refine O_val rfl rfl (r_load (v := .int _ _) rfl Try.underlying3 rfl (Blk.cell B1 rfl)) (hS) ?_
      refine A_ready1 (i := 0) (by kernel_rfl) ?_
      refine O_val rfl rfl (r_load (v := .pointer _) rfl Try.underlying27 rfl (Blk.cell B0 rfl)) (hS) ?_
      refine A_take (i := 1) rfl (by kernel_rfl) (by kernel_rfl) (by kernel_rfl) rfl hS (fun _ hw => r_nilCheck rfl) ?_
      refine A_take (i := 2) rfl (by kernel_rfl) (by kernel_rfl) (by kernel_rfl) rfl hS (fun _ hw => r_fieldAddr rfl Try.fld64_0 rfl) ?_
      refine A_ready1 (i := 3) (by kernel_rfl) ?_
      refine O_val rfl rfl (r_load (v := .pointer _) rfl Try.underlying25 rfl (Blk.cell hbj rfl)) (hS) ?_
      refine A_ready1 (i := 6) (by kernel_rfl) ?_
      refine O_call rfl rfl (r_call Try.func11 Try.nm11 rfl) (append_faF (h.fa.ext hX) hw (by omega) n A c b hbl hG (hA.keep (fun x hx ↦ hX.block x (hlt x (hG x hx))) (fun _ h ↦ h))) ?_
      rintro v w2 ⟨rfl, hFA, hFo⟩
      replace hS := trivial
      refine ⟨hS, ?_⟩
      refine A_take (i := 7) rfl (by kernel_rfl) (by kernel_rfl) (by kernel_rfl) rfl hS (fun _ hw => r_assignV (v := .int _ _) rfl) ?_
      refine A_done (by kernel_rfl) ?_
      refine W_ret (finX_ret ?_)
      refine fin1 ?_
      have hFo' : Fo B F w w2 := hFo.pre h.fa.lt h.fa.le hX
      exact ⟨_, rfl, rfl, h.op hFA hFo', hFo'⟩
theorem ckpt3_spec {jb p B b0 b1 : Nat} {F : Nat → Prop} {w : World} {D : Dk} {s : Nat} (h : JA jb p B F w D s) {k : Nat} (hw : WF D k) (hk : k ≤ 268435456) (n : Nat) (B0 : Blk w b0 #[jq jb] 27) (B1 : Blk w b1 #[.int .i64 n] 3) :
    Calls Try.prog 40 #[.pointer (some ⟨b0, 0, none⟩), .pointer (some ⟨b1, 0, none⟩)] w (fun en w' => ∃ v, en = .returned v ∧ v = .int .i64 (D.sync n).2 ∧ JA jb p B F w' (D.sync n).1 s ∧ Fo B F w w') := by
  have hbj := h.bj
  refine calls' (n := 9) (rs := #[.tmp 2]) (l := [.pointer (some ⟨b0, 0, none⟩), .pointer (some ⟨b1, 0, none⟩)]) Try.func40 rfl rfl rfl rfl rfl ?_
  have hX := Ext.refl w
  refine W_seq ?_
  refine W_region ?_
  refine op rfl (r_assignV (v := .int _ _) rfl) ?_
  refine WL_nil ?_
  refine W_seq ?_
  refine W_drawA Try.wd rfl ?_
  intro wd1 hD
  have hS : anyW wd1 := trivial
  replace B0 := Blk.ext B0 hD
  replace B1 := Blk.ext B1 hD
  replace hbj := Blk.ext hbj hD
  replace hX := hX.trans hD
  refine A_ready2 (i := 0) (j := 4) (by kernel_rfl) ?_ ?_
  · refine O_val rfl rfl (r_load (v := .pointer _) rfl Try.underlying27 rfl (Blk.cell B0 rfl)) (hS) ?_
    refine A_take (i := 1) rfl (by kernel_rfl) (by kernel_rfl) (by kernel_rfl) rfl hS (fun _ hw => r_nilCheck rfl) ?_
    refine A_take (i := 2) rfl (by kernel_rfl) (by kernel_rfl) (by kernel_rfl) rfl hS (fun _ hw => r_fieldAddr rfl Try.fld64_0 rfl) ?_
    refine A_ready2 (i := 3) (j := 4) (by kernel_rfl) ?_ ?_
    · refine O_val rfl rfl (r_load (v := .pointer _) rfl Try.underlying25 rfl (Blk.cell hbj rfl)) (hS) ?_
      refine A_ready1 (i := 4) (by kernel_rfl) ?_
      refine O_val rfl rfl (r_load (v := .int _ _) rfl Try.underlying3 rfl (Blk.cell B1 rfl)) (hS) ?_
      refine A_ready1 (i := 5) (by kernel_rfl) ?_
      refine O_call rfl rfl (r_call Try.func32 Try.nm32 rfl) (sync_fa (h.fa.ext hX) hw (by omega) n) ?_
      rintro v w2 ⟨rfl, hFA, hFo⟩
      replace hS := trivial
      refine ⟨hS, ?_⟩
      refine A_take (i := 6) rfl (by kernel_rfl) (by kernel_rfl) (by kernel_rfl) rfl hS (fun _ hw => r_assignV (v := .int _ _) rfl) ?_
      refine A_done (by kernel_rfl) ?_
      refine W_ret (finX_ret ?_)
      refine fin1 ?_
      have hFo' : Fo B F w w2 := hFo.pre h.fa.lt h.fa.le hX
      exact ⟨_, rfl, rfl, h.op hFA hFo', hFo'⟩
    · refine O_val rfl rfl (r_load (v := .int _ _) rfl Try.underlying3 rfl (Blk.cell B1 rfl)) (hS) ?_
      refine A_ready1 (i := 3) (by kernel_rfl) ?_
      refine O_val rfl rfl (r_load (v := .pointer _) rfl Try.underlying25 rfl (Blk.cell hbj rfl)) (hS) ?_
      refine A_ready1 (i := 5) (by kernel_rfl) ?_
      refine O_call rfl rfl (r_call Try.func32 Try.nm32 rfl) (sync_fa (h.fa.ext hX) hw (by omega) n) ?_
      rintro v w2 ⟨rfl, hFA, hFo⟩
      replace hS := trivial
      refine ⟨hS, ?_⟩
      refine A_take (i := 6) rfl (by kernel_rfl) (by kernel_rfl) (by kernel_rfl) rfl hS (fun _ hw => r_assignV (v := .int _ _) rfl) ?_
      refine A_done (by kernel_rfl) ?_
      refine W_ret (finX_ret ?_)
      refine fin1 ?_
      have hFo' : Fo B F w w2 := hFo.pre h.fa.lt h.fa.le hX
      exact ⟨_, rfl, rfl, h.op hFA hFo', hFo'⟩
  · refine O_val rfl rfl (r_load (v := .int _ _) rfl Try.underlying3 rfl (Blk.cell B1 rfl)) (hS) ?_
    refine A_ready1 (i := 0) (by kernel_rfl) ?_
    refine O_val rfl rfl (r_load (v := .pointer _) rfl Try.underlying27 rfl (Blk.cell B0 rfl)) (hS) ?_
    refine A_take (i := 1) rfl (by kernel_rfl) (by kernel_rfl) (by kernel_rfl) rfl hS (fun _ hw => r_nilCheck rfl) ?_
    refine A_take (i := 2) rfl (by kernel_rfl) (by kernel_rfl) (by kernel_rfl) rfl hS (fun _ hw => r_fieldAddr rfl Try.fld64_0 rfl) ?_
    refine A_ready1 (i := 3) (by kernel_rfl) ?_
    refine O_val rfl rfl (r_load (v := .pointer _) rfl Try.underlying25 rfl (Blk.cell hbj rfl)) (hS) ?_
    refine A_ready1 (i := 5) (by kernel_rfl) ?_
    refine O_call rfl rfl (r_call Try.func32 Try.nm32 rfl) (sync_fa (h.fa.ext hX) hw (by omega) n) ?_
    rintro v w2 ⟨rfl, hFA, hFo⟩
    replace hS := trivial
    refine ⟨hS, ?_⟩
    refine A_take (i := 6) rfl (by kernel_rfl) (by kernel_rfl) (by kernel_rfl) rfl hS (fun _ hw => r_assignV (v := .int _ _) rfl) ?_
    refine A_done (by kernel_rfl) ?_
    refine W_ret (finX_ret ?_)
    refine fin1 ?_
    have hFo' : Fo B F w w2 := hFo.pre h.fa.lt h.fa.le hX
    exact ⟨_, rfl, rfl, h.op hFA hFo', hFo'⟩
theorem ckpt4_spec {jb p B b0 : Nat} {F : Nat → Prop} {w : World} {D : Dk} {s : Nat} (h : JA jb p B F w D s) {k : Nat} (hw : WF D k) (hk : k ≤ 268435456) (hs : s + 1 < 2 ^ 64) (B0 : Blk w b0 #[jq jb] 27) (hne : b0 ≠ jb) :
    Calls Try.prog 41 #[.pointer (some ⟨b0, 0, none⟩)] w (fun en w' => ∃ v, en = .returned v ∧ v = .int .i64 (D.cut 2 0).2 ∧ JA jb p B F w' (D.cut 2 0).1 (s + 1) ∧ Fo B (But F jb) w w') := by
  have hbj := h.bj
  have hlo := h.lo
  have hsz := h.fa.le
  refine calls' (n := 14) (rs := #[.tmp 1]) (l := [.pointer (some ⟨b0, 0, none⟩)]) Try.func41 rfl rfl rfl rfl rfl ?_
  have hX := Ext.refl w
  refine W_seq ?_
  refine W_region ?_
  refine op rfl (r_assignV (v := .int _ _) rfl) ?_
  refine WL_nil ?_
  refine W_seq ?_
  refine W_region ?_
  refine op rfl (r_load (v := .pointer _) rfl Try.underlying27 rfl (Blk.cell B0 rfl)) ?_
  refine op rfl (r_nilCheck rfl) ?_
  refine op rfl (r_fieldAddr rfl Try.fld64_1 rfl) ?_
  refine op rfl (r_load (v := .int _ _) rfl Try.underlying42 rfl (Blk.cell hbj rfl)) ?_
  refine op rfl (r_add' (r := ((s + 1 : Nat) : Int)) rfl rfl (by rw [wrap_u64 (by omega) (by omega)]; omega)) ?_
  refine op rfl (r_nilCheck rfl) ?_
  refine op rfl (r_fieldAddr rfl Try.fld64_1 rfl) ?_
  refine op_store (v := .int .u64 ((s + 1 : Nat) : Int)) rfl rfl rfl Try.sz42 hbj (Nat.le_of_ble_eq_true rfl) ?_
  intro w7 C7 BB7
  replace B0 := Chg.blk C7 B0 hne
  have hFA7 := h.fa.chg h.fj C7
  have hFo7 : Fo B (But F jb) w w7 := ⟨fun b hb => C7.block b (h.fa.lt b hb.1) hb.2, Chg.below (Below.refl _ _) hlo hsz C7⟩
  have hJ7 : JA jb p B F w7 D (s + 1) := ⟨BB7, hFA7, h.fj, h.lo⟩
  have hbj7 := BB7
  refine WL_nil ?_
  refine W_seq ?_
  refine W_region ?_
  refine op rfl (r_load (v := .pointer _) rfl Try.underlying27 rfl (Blk.cell B0 rfl)) ?_
  refine op rfl (r_nilCheck rfl) ?_
  refine op rfl (r_fieldAddr rfl Try.fld64_0 rfl) ?_
  refine op rfl (r_load (v := .pointer _) rfl Try.underlying25 rfl (Blk.cell hbj7 rfl)) ?_
  refine opCv rfl (r_call Try.func30 Try.nm30 rfl) (cut_fa hFA7 hw (by omega) 2 0) ?_
  rintro v w2 ⟨rfl, hFA, hFo⟩
  refine op rfl (r_assignV (v := .int _ _) rfl) ?_
  refine WL_nil ?_
  refine W_ret (finX_ret ?_)
  refine fin1 ?_
  exact ⟨_, rfl, rfl, hJ7.op hFA hFo, hFo7.trans (hFo.weak (fun b hb => hb.1))⟩
theorem ckpt_spec {jb p B : Nat} {F : Nat → Prop} {w : World} {D : Dk} {s : Nat} (h : JA jb p B F w D s) {k : Nat} (hw : WF D k) (hk : k ≤ 134217728) (hs : s + 1 < 2 ^ 64) (A : Option Addr) (c : Nat) (x : List UInt8) (hc : x.length ≤ c) (hx : x.length ≤ 60000) (hA : Bytes w A x) :
    Calls Try.prog 16 #[jq jb, .slice A x.length c] w (fun en w' => ∃ v, en = .returned v ∧ ∃ e : Int, v = .int .i64 e ∧ ∃ D' s', Ck D s x D' s' e ∧ JA jb p B F w' D' s' ∧ Fo B (But F jb) w w') := by
  have hbj := h.bj
  have hFl := h.fa.lt
  have hB := h.fa.le
  have hsl := sl_lt s
  obtain ⟨er1, er2⟩ := errOf_rec (s := s + 1) hx
  refine calls' (n := 38) (rs := #[.tmp 4]) (l := [jq jb, .slice A x.length c]) Try.func16 rfl rfl rfl rfl rfl ?_
  have hX := Ext.refl w
  refine W_seq ?_
  refine W_region ?_
  refine op_box (v := .pointer _) rfl rfl ?_
  intro w0_0 b0_0 E0_0 B0_0 L0_0
  have hG0_0 : w.heap.size ≤ b0_0 := by have := hX.size; omega
  have hNjb_0_0 : jb ≠ b0_0 := by have := Blk.lt hbj; omega
  replace hbj := Blk.ext hbj E0_0
  replace hX := hX.trans E0_0
  refine op rfl (r_assignV (v := .int _ _) rfl) ?_
  refine WL_nil ?_
  refine W_seq ?_
  refine W_seq ?_
  refine W_region ?_
  refine op rfl (r_load (v := jq jb) rfl Try.underlying27 rfl (Blk.cell B0_0 rfl)) ?_
  refine op rfl (rp_eql rfl rfl Try.underlying27) ?_
  refine WL_nil ?_
  refine W_ifp rfl (fun ht9 => ?_) (fun ht9 => ?_)
  · exact ht9.elim
  · refine W_skip ?_
    refine W_seq ?_
    refine W_region ?_
    refine op rfl (r_load (v := .pointer _) rfl Try.underlying27 rfl (Blk.cell B0_0 rfl)) ?_
    refine op rfl (r_nilCheck rfl) ?_
    refine op rfl (r_fieldAddr rfl Try.fld64_1 rfl) ?_
    refine op rfl (r_load (v := .int _ _) rfl Try.underlying42 rfl (Blk.cell hbj rfl)) ?_
    refine op rfl (r_add' (r := ((s + 1 : Nat) : Int)) rfl rfl (by rw [wrap_u64 (by omega) (by omega)]; omega)) ?_
    refine op rfl (r_moveV (v := .slice _ _ _) rfl) ?_
    have hX3 := hX
    refine opCv rfl (r_call Try.func33 Try.nm33 rfl) (framed_spec (s + 1) hs A c x _ hc (by omega) (hA.ext hX)) ?_
    rintro v w2 ⟨u, rfl, hE, hO⟩
    replace hbj := Blk.ext hbj hE
    replace B0_0 := Blk.ext B0_0 hE
    replace hX := hX.trans hE
    rw [er1, er2] at *
    obtain ⟨A2, c2, rfl, hc2, hr2⟩ := hO.read
    have hr2' : Ty.byte.Row w2 (fun b => w.heap.size ≤ b ∧ b < w2.heap.size) A2 (rec1 (s + 1) x) := hr2.keep (fun _ _ => rfl) (fun b hb => by
      rcases hb with q | q
      · exact q.elim
      · have := hO.lt q; have := hX3.size; omega)
    refine op rfl (r_moveV (v := .tuple #[.slice A2 (rec1 (s + 1) x).length c2, .int .i64 (0 : Nat)]) rfl) ?_
    refine op rfl (r_extract (vs := [.slice A2 (rec1 (s + 1) x).length c2, .int .i64 (0 : Nat)]) rfl rfl) ?_
    refine op rfl (r_extract (vs := [.slice A2 (rec1 (s + 1) x).length c2, .int .i64 (0 : Nat)]) rfl rfl) ?_
    refine op_alloc rfl Try.zero23 ?_
    intro w3_10 b3_10 E3_10 B3_10 L3_10
    have hG3_10 : w.heap.size ≤ b3_10 := by have := hX.size; omega
    have hNjb_3_10 : jb ≠ b3_10 := by have := Blk.lt hbj; omega
    replace hbj := Blk.ext hbj E3_10
    have hNb0_0_3_10 : b0_0 ≠ b3_10 := by have := Blk.lt B0_0; omega
    replace B0_0 := Blk.ext B0_0 E3_10
    replace hX := hX.trans E3_10
    refine op_store (v := .slice A2 (rec1 (s + 1) x).length c2) rfl rfl rfl Try.sz23 B3_10 (Nat.le_of_ble_eq_true rfl) ?_
    intro w3_11 C3_11 BB3_11
    replace hbj := Chg.blk C3_11 hbj hNjb_3_10
    replace B0_0 := Chg.blk C3_11 B0_0 hNb0_0_3_10
    replace hX := hX.chg C3_11 hG3_10
    replace B3_10 := BB3_11
    refine op rfl (r_assignV (v := .int .i64 (0 : Nat)) rfl) ?_
    refine WL_nil ?_
    refine W_seq ?_
    refine W_seq ?_
    refine W_region ?_
    refine op rfl (r_moveV (v := .int .i64 (0 : Nat)) rfl) ?_
    refine op rfl (r_neq rfl rfl) ?_
    refine WL_nil ?_
    refine W_ifp rfl (fun ht21 => ?_) (fun ht21 => ?_)
    · exact absurd rfl ht21
    · refine W_skip ?_
      refine W_seq ?_
      refine W_region ?_
      refine op rfl (r_load (v := .pointer _) rfl Try.underlying27 rfl (Blk.cell B0_0 rfl)) ?_
      refine op rfl (r_nilCheck rfl) ?_
      refine op rfl (r_fieldAddr rfl Try.fld64_1 rfl) ?_
      refine op rfl (r_load (v := .int _ _) rfl Try.underlying42 rfl (Blk.cell hbj rfl)) ?_
      refine op rfl (r_add' (r := ((s + 1 : Nat) : Int)) rfl rfl (by rw [wrap_u64 (by omega) (by omega)]; omega)) ?_
      refine op rfl (r_rem' (r := ((sl s : Nat) : Int)) rfl rfl (by omega) (by rw [Int.tmod_eq_emod_of_nonneg (by omega)]; unfold sl; omega)) ?_
      refine op rfl (r_conv' (r := ((sl s : Nat) : Int)) rfl Try.underlying42 Try.underlying3 (wrap_i64 (by omega) (by omega))) ?_
      refine op_alloc rfl Try.zero3 ?_
      intro w6_7 b6_7 E6_7 B6_7 L6_7
      have hG6_7 : w.heap.size ≤ b6_7 := by have := hX.size; omega
      have hNjb_6_7 : jb ≠ b6_7 := by have := Blk.lt hbj; omega
      replace hbj := Blk.ext hbj E6_7
      have hNb0_0_6_7 : b0_0 ≠ b6_7 := by have := Blk.lt B0_0; omega
      replace B0_0 := Blk.ext B0_0 E6_7
      have hNb3_10_6_7 : b3_10 ≠ b6_7 := by have := Blk.lt B3_10; omega
      replace B3_10 := Blk.ext B3_10 E6_7
      replace hX := hX.trans E6_7
      refine op_store (v := .int _ _) rfl rfl rfl Try.sz3 B6_7 (Nat.le_of_ble_eq_true rfl) ?_
      intro w6_8 C6_8 BB6_8
      replace hbj := Chg.blk C6_8 hbj hNjb_6_7
      replace B0_0 := Chg.blk C6_8 B0_0 hNb0_0_6_7
      replace B3_10 := Chg.blk C6_8 B3_10 hNb3_10_6_7
      replace hX := hX.chg C6_8 hG6_7
      replace B6_7 := BB6_8
      refine WL_nil ?_
      refine W_seq ?_
      refine W_region ?_
      refine op rfl (r_makeFunc) ?_
      refine op rfl (r_makeFunc) ?_
      refine op rfl (r_makeFunc) ?_
      refine op rfl (r_makeFunc) ?_
      refine op rfl (r_load (v := jq jb) rfl Try.underlying27 rfl (Blk.cell B0_0 rfl)) ?_
      refine op rfl (r_makeFunc) ?_
      refine op_newS rfl (r_buildSlice (vs := [_, _, _, _, _]) Try.underlying85 Try.sz38 Try.zero38 rfl rfl rfl) ?_
      intro w7_6 b7_6 E7_6 B7_6 L7_6
      have hG7_6 : w.heap.size ≤ b7_6 := by have := hX.size; omega
      have hNjb_7_6 : jb ≠ b7_6 := by have := Blk.lt hbj; omega
      replace hbj := Blk.ext hbj E7_6
      have hNb0_0_7_6 : b0_0 ≠ b7_6 := by have := Blk.lt B0_0; omega
      replace B0_0 := Blk.ext B0_0 E7_6
      have hNb3_10_7_6 : b3_10 ≠ b7_6 := by have := Blk.lt B3_10; omega
      replace B3_10 := Blk.ext B3_10 E7_6
      have hNb6_7_7_6 : b6_7 ≠ b7_6 := by have := Blk.lt B6_7; omega
      replace B6_7 := Blk.ext B6_7 E7_6
      replace hX := hX.trans E7_6
      have hz0 : ∀ k, k ≤ 0 → (D.stg s x k).2 = 0 := fun k hk => by
        have hk0 : k = 0 := Nat.le_zero.1 hk
        rw [hk0]; rfl
      have hW3 : Ext w2 w3_11 := Chg.ext E3_10 (Nat.le_of_eq L3_10) C3_11
      have hW2 : Ext w2 w7_6 := (Chg.ext (hW3.trans E6_7) (by rw [← L6_7]; exact hW3.size) C6_8).trans E7_6
      have hFA7 := h.fa.nw hX
      have hJ7 : JA jb p B (Nw F w w7_6) w7_6 D s := ⟨hbj, hFA7, Or.inl h.fj, h.lo⟩
      have hjl := Blk.lt h.bj
      have m0 : But (Nw F w w7_6) jb b0_0 := ⟨Or.inr ⟨hG0_0, Blk.lt B0_0⟩, by omega⟩
      have m1 : But (Nw F w w7_6) jb b6_7 := ⟨Or.inr ⟨hG6_7, Blk.lt B6_7⟩, by omega⟩
      have m2 : But (Nw F w w7_6) jb b3_10 := ⟨Or.inr ⟨hG3_10, Blk.lt B3_10⟩, by omega⟩
      have m3 : But (Nw F w w7_6) jb b7_6 := ⟨Or.inr ⟨hG7_6, Blk.lt B7_6⟩, by omega⟩
      have B0 : Blk w7_6 b0_0 #[jq jb] 27 := B0_0
      have B1 : Blk w7_6 b6_7 #[.int .i64 ((sl s : Nat) : Int)] 3 := B6_7
      have B2 : Blk w7_6 b3_10 #[.slice A2 (rec1 (s + 1) x).length c2] 23 := B3_10
      have hX7 := hX
      have hr7 : ∀ u, Same (But (Nw F w w7_6) jb) w7_6 u → Ty.byte.Row u (But (Nw F w w7_6) jb) A2 (rec1 (s + 1) x) := fun u hu => hr2'.keep (fun b hb => (hu b ⟨Or.inr ⟨hb.1, Nat.lt_of_lt_of_le hb.2 hW2.size⟩, by omega⟩).trans (hW2.block b hb.2)) (fun b hb => ⟨Or.inr ⟨hb.1, Nat.lt_of_lt_of_le hb.2 hW2.size⟩, by omega⟩)
      have hgo : ∀ (i : Nat), i < 5 → ∀ u u', Fo B (But (Nw F w w7_6) jb) w7_6 u → (∀ k, k ≤ i → (D.stg s x k).2 = 0) → JA jb p B (Nw F w w7_6) u' (D.stg s x (i + 1)).1 (if 3 ≤ i then s + 1 else s) → Fo B (But (Nw F w w7_6) jb) u u' →
          ((D.stg s x (i + 1)).2 = 0 ∧ (Fo B (But (Nw F w w7_6) jb) w7_6 u' ∧ (∀ k, k ≤ i + 1 → (D.stg s x k).2 = 0) ∧ JA jb p B (Nw F w w7_6) u' (D.stg s x (i + 1)).1 (if 4 ≤ i + 1 then s + 1 else s))) ∨
          ((D.stg s x (i + 1)).2 ≠ 0 ∧ (∃ D' s', Ck D s x D' s' (D.stg s x (i + 1)).2 ∧ JA jb p B (Nw F w w7_6) u' D' s' ∧ Fo B (But (Nw F w w7_6) jb) w7_6 u')) := by
        intro i hi u u' hf hz hj ho
        by_cases he : (D.stg s x (i + 1)).2 = 0
        · refine Or.inl ⟨he, hf.trans ho, fun k hk => ?_, ?_⟩
          · rcases (by omega : k ≤ i ∨ k = i + 1) with q | rfl
            · exact hz k q
            · exact he
          · by_cases h3 : 3 ≤ i
            · rw [if_pos h3] at hj; rw [if_pos (by omega)]; exact hj
            · rw [if_neg h3] at hj; rw [if_neg (by omega)]; exact hj
        · exact Or.inr ⟨he, _, _, Ck.no i hi hz he, hj, hf.trans ho⟩
      have wk : ∀ {u u' : World}, Fo B (Nw F w w7_6) u u' → Fo B (But (Nw F w w7_6) jb) u u' := fun hf => hf.weak (fun b hb => hb.1)
      have AC := all_spec (b := b7_6) (n := 5) (vs := [.func (.func 38) #[] #[.pointer (some ⟨b0_0, 0, none⟩), .pointer (some ⟨b6_7, 0, none⟩)], .func (.func 39) #[] #[.pointer (some ⟨b0_0, 0, none⟩), .pointer (some ⟨b6_7, 0, none⟩), .pointer (some ⟨b3_10, 0, none⟩)], .func (.func 40) #[] #[.pointer (some ⟨b0_0, 0, none⟩), .pointer (some ⟨b6_7, 0, none⟩)], .func (.func 41) #[] #[.pointer (some ⟨b0_0, 0, none⟩)], .func (.func 15) #[jq jb] #[]])
        (fun i u => Fo B (But (Nw F w w7_6) jb) w7_6 u ∧ (∀ k, k ≤ i → (D.stg s x k).2 = 0) ∧ JA jb p B (Nw F w w7_6) u (D.stg s x i).1 (if 4 ≤ i then s + 1 else s))
        (fun e u => ∃ D' s', Ck D s x D' s' e ∧ JA jb p B (Nw F w w7_6) u D' s' ∧ Fo B (But (Nw F w w7_6) jb) w7_6 u) w7_6 rfl (by omega) ⟨Fo.refl _, hz0, hJ7⟩ (fun i u hI => B7_6.at (hI.1.same _ m3)) (by
          intro i hi u hI
          obtain ⟨hf, hz, hj⟩ := hI
          match i, hi, hz, hj with
          | 0, _, hz, hj =>
            refine ⟨_, _, [], [.pointer (some ⟨b0_0, 0, none⟩), .pointer (some ⟨b6_7, 0, none⟩)], rfl, Try.func38, Try.nm38, rfl, (ckpt1_spec hj (hw.stg s x (i := 0) (by omega)) (by omega) (sl s) (B0.at (hf.same _ m0)) (B1.at (hf.same _ m1))).mono ?_⟩
            rintro en w' ⟨v, rfl, rfl, hj', ho⟩
            exact ⟨_, rfl, _, rfl, hgo 0 (by omega) u w' hf hz hj' (wk ho)⟩
          | 1, _, hz, hj =>
            refine ⟨_, _, [], [.pointer (some ⟨b0_0, 0, none⟩), .pointer (some ⟨b6_7, 0, none⟩), .pointer (some ⟨b3_10, 0, none⟩)], rfl, Try.func39, Try.nm39, rfl, (ckpt2_spec hj (hw.stg s x (i := 1) (by omega)) (by omega) (sl s) (B0.at (hf.same _ m0)) (B1.at (hf.same _ m1)) A2 c2 (rec1 (s + 1) x) (by rw [rec1_len]; omega) (B2.at (hf.same _ m2)) (fun b hb => hb.1) (hr7 u hf.same)).mono ?_⟩
            rintro en w' ⟨v, rfl, rfl, hj', ho⟩
            exact ⟨_, rfl, _, rfl, hgo 1 (by omega) u w' hf hz hj' (wk ho)⟩
          | 2, _, hz, hj =>
            refine ⟨_, _, [], [.pointer (some ⟨b0_0, 0, none⟩), .pointer (some ⟨b6_7, 0, none⟩)], rfl, Try.func40, Try.nm40, rfl, (ckpt3_spec hj (hw.stg s x (i := 2) (by omega)) (by omega) (sl s) (B0.at (hf.same _ m0)) (B1.at (hf.same _ m1))).mono ?_⟩
            rintro en w' ⟨v, rfl, rfl, hj', ho⟩
            exact ⟨_, rfl, _, rfl, hgo 2 (by omega) u w' hf hz hj' (wk ho)⟩
          | 3, _, hz, hj =>
            refine ⟨_, _, [], [.pointer (some ⟨b0_0, 0, none⟩)], rfl, Try.func41, Try.nm41, rfl, (ckpt4_spec hj (hw.stg s x (i := 3) (by omega)) (by omega) hs (B0.at (hf.same _ m0)) m0.2).mono ?_⟩
            rintro en w' ⟨v, rfl, rfl, hj', ho⟩
            exact ⟨_, rfl, _, rfl, hgo 3 (by omega) u w' hf hz hj' ho⟩
          | 4, _, hz, hj =>
            refine ⟨_, _, [jq jb], [], rfl, Try.func15, Try.nm15, rfl, (jsync_spec hj (hw.stg s x (i := 4) (by omega)) (by omega)).mono ?_⟩
            rintro en w' ⟨v, rfl, rfl, hj', ho⟩
            exact ⟨_, rfl, _, rfl, hgo 4 (by omega) u w' hf hz hj' (wk ho)⟩) (fun u hI => ⟨_, _, Ck.ok hI.2.1, hI.2.2, hI.1⟩)
      refine opCv rfl (r_call Try.func28 Try.nm28 rfl) (AC) ?_
      rintro v w8 ⟨e, rfl, D', s', hCk, hJ8, hFo8⟩
      refine op rfl (r_assignV (v := .int _ _) rfl) ?_
      refine WL_nil ?_
      refine W_ret (finX_ret ?_)
      refine fin1 ?_
      have hFo : Fo B (But F jb) w w8 := (hFo8.weak (fun b hb => ⟨Or.inl hb.1, hb.2⟩)).pre (fun b hb => hFl b hb.1) hB hX7
      exact ⟨_, rfl, e, rfl, D', s', hCk, hJ8.weak (fun b hb => Or.inl hb) h.fj, hFo⟩
end Go.Proofs.Ytlidigdlcjhkfaa
