/-
  The walks of package journal: Append, Sync, Seq, Used, Open.
-/
import Derived.Test.YtlidigdlcjhkfaaFacts
import Derived.Test.YtlidigdlcjhkfaaJnlR
import Derived.Test.YtlidigdlcjhkfaaDiskV
namespace Go.Proofs.Ytlidigdlcjhkfaa
open Go Go.Eng Go.RowKit Go.Proofs
set_option linter.unusedVariables false
set_option linter.unusedSimpArgs false
set_option maxHeartbeats 4000000

theorem r_callVF {P : Program} {w : World} {d : Option Tmp} {t : TypeId} {pos : String} {af : Array Edge} {g : Option (Nat × Bool)} {e : Env} {y : Operand} {f : FuncId} {fn : Func} {xs : List Operand} {ts : Array TypeId} {fs lb : List Value} (hy : ev e y = .func (.func f) fs.toArray lb.toArray) (hf : P.funcs[f]? = some fn) (hn : (fn.name == "runtime.NumGoroutine") = false) (hb : fn.body.isNone = false) :
    (execOp (ev e) ⟨d, .call { callee := .value y, args := xs.toArray, argTypes := ts }, t, pos, af, g⟩).run P w = .ok (.enter f (fs ++ List.map (ev e) xs ++ lb).toArray) w := by
  simp [execOp, resolve, hy, invoke, go_sem, callFunc_run hf hn hb]
/-- Steps in order, till one fails. -/
theorem all_spec {b n : Nat} {vs : List Value} (I : Nat → World → Prop) (Q : Int → World → Prop) (w : World) (hvs : vs.length = n) (hn : n ≤ 1000) (h0 : I 0 w) (hblk : ∀ i w, I i w → Blk w b vs.toArray 38)
    (hstep : ∀ i (hi : i < vs.length) w, I i w → ∃ f fn fs lb, vs[i] = .func (.func f) fs.toArray lb.toArray ∧ Try.prog.funcs[f]? = some fn ∧ (fn.name == "runtime.NumGoroutine") = false ∧ fn.body.isNone = false ∧
      Calls Try.prog f (fs ++ List.map (ev fun _ => undef) [] ++ lb).toArray w (fun en w' => ∃ v, en = .returned v ∧ ∃ e : Int, v = .int .i64 e ∧ ((e = 0 ∧ I (i + 1) w') ∨ (e ≠ 0 ∧ Q e w'))))
    (hend : ∀ w, I n w → Q 0 w) :
    Calls Try.prog 28 #[.slice (some ⟨b, 0, none⟩) n n] w (fun en w' => ∃ v, en = .returned v ∧ ∃ e : Int, v = .int .i64 e ∧ Q e w') := by
  subst hvs
  refine calls' (n := 18) (rs := #[.tmp 2]) (l := [.slice (some ⟨b, 0, none⟩) vs.length vs.length]) Try.func28 rfl rfl rfl rfl rfl ?_
  refine W_seq ?_
  refine W_region ?_
  refine op rfl (r_assignV (v := .int _ _) rfl) ?_
  refine WL_nil ?_
  refine W_seq ?_
  refine W_seq ?_
  refine W_region ?_
  refine op rfl (r_moveV (v := .slice _ _ _) rfl) ?_
  refine op rfl (r_len_slice rfl Try.underlying85) ?_
  refine op rfl (r_moveV (v := .int _ _) rfl) ?_
  refine WL_nil ?_
  refine W_block ?_
  refine W_loop [2, 4, 5, 8, 9, 10, 11, 12, 13, 14, 15, 16, 17] (fun q e' w' => ∃ i : Nat, q = vs.length - i ∧ i ≤ vs.length ∧ e' 8 = .int .i64 i ∧ I i w') (vs.length) ?_ ?_
  · exact ⟨0, by omega, by omega, rfl, h0⟩
  intro k g w' hI
  obtain ⟨i, hq, hi, h8, hI⟩ := hI
  refine W_set (i := 8) h8 ?_
  refine W_seq ?_
  refine W_region ?_
  refine op rfl (r_lss rfl rfl) ?_
  refine WL_nil ?_
  refine W_seq ?_
  refine W_ifp rfl (fun ht9 => ?_) (fun ht9 => ?_)
  · have hlt : i < vs.length := by omega
    obtain ⟨f, fn, fs, lb, hv, hf1, hf2, hf3, hC⟩ := hstep i hlt w' hI
    have hb := hblk i w' hI
    have hcell : w'.cell? ⟨b, 0 + (i : Int).toNat, none⟩ = some (.func (.func f) fs.toArray lb.toArray) := by
      have := Blk.cell (v := .func (.func f) fs.toArray lb.toArray) (i := i) hb (by rw [← hv]; simp [hlt])
      simpa using this
    refine W_skip ?_
    refine W_seq ?_
    refine W_block ?_
    refine W_seq ?_
    refine W_region ?_
    refine op rfl (r_indexAddr1 rfl rfl rfl Try.underlying85 Try.sz38 (by omega) (by omega)) ?_
    refine op rfl (r_load (v := .func (.func f) fs.toArray lb.toArray) rfl Try.underlying38 rfl hcell) ?_
    refine op rfl (r_assignV (v := .func (.func f) fs.toArray lb.toArray) rfl) ?_
    refine WL_nil ?_
    refine W_seq ?_
    refine W_region ?_
    refine op rfl (r_moveV (v := .func (.func f) fs.toArray lb.toArray) rfl) ?_
    refine opCv rfl (r_callVF (fs := fs) (lb := lb) (xs := []) rfl hf1 hf2 hf3) (hC) ?_
    rintro v w2 ⟨e, rfl, hQ⟩
    refine op rfl (r_assignV (v := .int _ _) rfl) ?_
    refine WL_nil ?_
    refine W_seq ?_
    refine W_region ?_
    refine op rfl (r_moveV (v := .int _ _) rfl) ?_
    refine op rfl (r_neq rfl rfl) ?_
    refine WL_nil ?_
    refine W_ifp rfl (fun ht15 => ?_) (fun ht15 => ?_)
    · have hQ1 : Q e w2 := by
        rcases hQ with q | q
        · exact absurd q.1 ht15
        · exact q.2
      refine W_seq ?_
      refine W_region ?_
      refine op rfl (r_moveV (v := .int _ _) rfl) ?_
      refine op rfl (r_assignV (v := .int _ _) rfl) ?_
      refine WL_nil ?_
      refine W_ret (blk_ret (blk_ret (finX_ret ?_)))
      refine fin1 ?_
      first
        | exact ⟨_, rfl, e, rfl, hQ1⟩
        | exact ⟨_, rfl, 0, rfl, hend _ hI⟩
    · have he : e = 0 := Classical.byContradiction ht15
      have hI1 : I (i + 1) w2 := by
        rcases hQ with q | q
        · exact q.2
        · exact absurd he q.1
      refine W_skip ?_
      refine W_region ?_
      refine op rfl (r_add' rfl rfl (wrap_i64 (by omega) (by omega))) ?_
      refine op rfl (r_moveV (v := .int _ _) rfl) ?_
      refine WL_nil ?_
      refine ⟨?_, by repeat (first | with_reducible exact Out.refl _ _ | with_reducible exact Out.mix | refine Out.put rfl ?_ | refine Out.mixin rfl ?_ | exact Out.refl _ _ | exact Out.mix)⟩
      exact ⟨vs.length - (i + 1), by omega, i + 1, rfl, by omega, rfl, hI1⟩
  · obtain rfl : i = vs.length := by omega
    refine W_exit (blk_hit ?_)
    refine W_seq ?_
    refine W_region ?_
    refine op rfl (r_assignV (v := .int _ _) rfl) ?_
    refine WL_nil ?_
    refine W_ret (finX_ret ?_)
    refine fin1 ?_
    first
      | exact ⟨_, rfl, e, rfl, hQ1⟩
      | exact ⟨_, rfl, 0, rfl, hend _ hI⟩
theorem FA.nw {p B : Nat} {F : Nat → Prop} {w w' : World} {D : Dk} (h : FA p B F w D) (he : Ext w w') : FA p B (Nw F w w') w' D := by
  obtain ⟨H, h1, h2, h3⟩ := h
  refine ⟨H, h1, h2.ext he, fun b hb => ?_⟩
  rcases hb with hb | hb
  · exact ⟨Nat.lt_of_lt_of_le (h3 b hb).1 he.size, (h3 b hb).2⟩
  · exact ⟨hb.2, h2.off_lt hb.1, h2.off2_lt hb.1⟩
theorem FA.chg {p B b : Nat} {F : Nat → Prop} {w w' : World} {D : Dk} (h : FA p B F w D) (hb : F b) (hC : Chg b w w') : FA p B F w' D := by
  obtain ⟨H, h1, h2, h3⟩ := h
  obtain ⟨hl, ho, ho2⟩ := h3 b hb
  have ne : ∀ x, x < w.heap.size → x ≠ b → w'.heap[x]? = w.heap[x]? := fun x hx hn => hC.block x hx hn
  refine ⟨H, h1, h2.keep (ne _ (Blk.lt h2.bp) (fun e => ho.1 e.symm)) (ne _ (by obtain ⟨cs, hc, _⟩ := h2.bg; exact Blk.lt hc) (fun e => ho.2.1 e.symm)) (fun i hi x q => ?_), fun x hx => ⟨Nat.lt_of_lt_of_le (h3 x hx).1 hC.size, (h3 x hx).2⟩⟩
  rcases q with q | q | q
  · exact ne x ((h2.nv i hi).lt q).2 (fun e => (ho2 i hi).1 (e ▸ q))
  · exact ne x ((h2.lv i hi).lt q).2 (fun e => (ho2 i hi).2 (e ▸ q))
  · exact ne x ((h2.pv i hi).lt q).2 (fun e => ho.2.2 i hi (e ▸ q))
theorem FA.lt {p B : Nat} {F : Nat → Prop} {w : World} {D : Dk} (h : FA p B F w D) : ∀ b, F b → b < w.heap.size := by
  obtain ⟨H, _, _, h3⟩ := h
  exact fun b hb => (h3 b hb).1
theorem Fo.pre {B : Nat} {F : Nat → Prop} {w w1 w2 : World} (hF : ∀ b, F b → b < w.heap.size) (hB : B ≤ w.heap.size) (he : Ext w w1) (h : Fo B F w1 w2) : Fo B F w w2 :=
  ⟨fun b hb => (h.same b hb).trans (he.block b (hF b hb)), (he.mono hB).trans h.below⟩
theorem Fo.refl {B : Nat} {F : Nat → Prop} (w : World) : Fo B F w w := ⟨fun _ _ => rfl, Below.refl _ _⟩
theorem Fo.ofExt {B : Nat} {F : Nat → Prop} {w w1 : World} (hF : ∀ b, F b → b < w.heap.size) (hB : B ≤ w.heap.size) (he : Ext w w1) : Fo B F w w1 :=
  ⟨fun b hb => he.block b (hF b hb), he.mono hB⟩
theorem Fo.trans {B : Nat} {F : Nat → Prop} {w w1 w2 : World} (h : Fo B F w w1) (k : Fo B F w1 w2) : Fo B F w w2 :=
  ⟨fun b hb => (k.same b hb).trans (h.same b hb), h.below.trans k.below⟩
theorem Fo.weak {B : Nat} {F G : Nat → Prop} {w w1 : World} (h : Fo B F w w1) (hG : ∀ b, G b → F b) : Fo B G w w1 := ⟨fun b hb => h.same b (hG b hb), h.below⟩
/-- Bytes that are not the disk's. -/
theorem append_faF {p B : Nat} {F : Nat → Prop} {w : World} {D : Dk} (h : FA p B F w D) {k : Nat} (hw : WF D k) (hk : k ≤ 536870912) (a : Int) (A : Option Addr) (c : Nat) (b : List UInt8) (hbl : b.length ≤ 140737488355328) {G : Nat → Prop} (hG : ∀ x, G x → F x) (hA : Ty.byte.Row w G A b) :
    Calls Try.prog 11 #[dq p, .int .i64 a, .slice A b.length c] w (fun en w' => ∃ v, en = .returned v ∧ v = .int .i64 (D.append a b).2 ∧ FA p B F w' (D.append a b).1 ∧ Fo B F w w') := by
  have hle := h.le
  obtain ⟨H, rfl, hR, h3⟩ := h
  refine (append_spec hR hw hk a A c b hbl (fun x hx => ⟨(h3 x (hG x hx)).1, (h3 x (hG x hx)).2.1⟩) hA).mono ?_
  rintro en w' ⟨v, rfl, h1, h2⟩
  exact ⟨v, rfl, h1, h2.fa hR h3 hle⟩
/-- A journal at jb. -/
structure JA (jb p B : Nat) (F : Nat → Prop) (w : World) (D : Dk) (s : Nat) : Prop where
  bj : Blk w jb #[dq p, .int .u64 s] 64
  fa : FA p B F w D
  fj : F jb
  lo : B ≤ jb
abbrev jq (jb : Nat) : Value := .pointer (some ⟨jb, 0, none⟩)
theorem JA.op {jb p B : Nat} {F : Nat → Prop} {w w' : World} {D D' : Dk} {s : Nat} (h : JA jb p B F w D s) (hf : FA p B F w' D') (ho : Fo B F w w') : JA jb p B F w' D' s := ⟨h.bj.at (ho.same _ h.fj), hf, h.fj, h.lo⟩
theorem JA.ext {jb p B : Nat} {F : Nat → Prop} {w w' : World} {D : Dk} {s : Nat} (h : JA jb p B F w D s) (he : Ext w w') : JA jb p B F w' D s := ⟨h.bj.ext he, h.fa.ext he, h.fj, h.lo⟩
theorem JA.nw {jb p B : Nat} {F : Nat → Prop} {w w' : World} {D : Dk} {s : Nat} (h : JA jb p B F w D s) (he : Ext w w') : JA jb p B (Nw F w w') w' D s := ⟨h.bj.ext he, h.fa.nw he, Or.inl h.fj, h.lo⟩
theorem errOf_rec {s : Nat} {x : List UInt8} (h : x.length ≤ 60000) : Frame.errOf (Frame.num s 8 ++ x) = 0 ∧ Frame.encode (Frame.num s 8 ++ x) = rec1 s x := by
  have h8 := Frame.num_length s 8
  have hl : (Frame.num s 8 ++ x).length ≤ 65536 := by simp [h8]; omega
  unfold Frame.errOf Frame.encode rec1
  rw [if_pos hl, if_pos hl]
  exact ⟨rfl, rfl⟩
theorem jappend_spec {jb p B : Nat} {F : Nat → Prop} {w : World} {D : Dk} {s : Nat} (h : JA jb p B F w D s) (hs : s < 2 ^ 64) {k : Nat} (hw : WF D k) (hk : k ≤ 268435456) (A : Option Addr) (c : Nat) (x : List UInt8) (hc : x.length ≤ c) (hx : x.length ≤ 60000) (hA : Bytes w A x) :
    Calls Try.prog 10 #[jq jb, .slice A x.length c] w (fun en w' => ∃ v, en = .returned v ∧ v = .int .i64 (D.append 2 (rec1 s x)).2 ∧ JA jb p B F w' (D.append 2 (rec1 s x)).1 s ∧ Fo B F w w') := by
  have hbj := h.bj
  have hFl := h.fa.lt
  have hB := h.fa.le
  obtain ⟨er1, er2⟩ := errOf_rec (s := s) hx
  refine calls' (n := 27) (rs := #[.tmp 4]) (l := [jq jb, .slice A x.length c]) Try.func10 rfl rfl rfl rfl rfl ?_
  have hX := Ext.refl w
  refine W_seq ?_
  refine W_region ?_
  refine op rfl (r_assignV (v := .int _ _) rfl) ?_
  refine WL_nil ?_
  refine W_seq ?_
  refine W_seq ?_
  refine W_region ?_
  refine op rfl (r_moveV (v := jq jb) rfl) ?_
  refine op rfl (rp_eql rfl rfl Try.underlying27) ?_
  refine WL_nil ?_
  refine W_ifp rfl (fun ht8 => ?_) (fun ht8 => ?_)
  · exact ht8.elim
  · refine W_skip ?_
    refine W_seq ?_
    refine W_region ?_
    refine op rfl (r_moveV (v := .pointer _) rfl) ?_
    refine op rfl (r_nilCheck rfl) ?_
    refine op rfl (r_fieldAddr rfl Try.fld64_1 rfl) ?_
    refine op rfl (r_load (v := .int _ _) rfl Try.underlying42 rfl (Blk.cell hbj rfl)) ?_
    refine op rfl (r_moveV (v := .slice _ _ _) rfl) ?_
    refine opCv rfl (r_call Try.func33 Try.nm33 rfl) (framed_spec s hs A c x _ hc (by omega) hA) ?_
    rintro v w2 ⟨u, rfl, hE, hO⟩
    replace hbj := Blk.ext hbj hE
    replace hX := hX.trans hE
    rw [er1, er2] at *
    have hFA := h.fa.nw hE
    obtain ⟨A2, c2, rfl, hc2, hr2⟩ := hO.read
    have hG : ∀ b, (nobody b ∨ (Value.slice A2 (rec1 s x).length c2).ownBlock = some b) → Nw F w w2 b := by
      rintro b (q | q)
      · exact q.elim
      · exact Or.inr (hO.lt q)
    refine op rfl (r_moveV (v := .tuple #[.slice A2 (rec1 s x).length c2, .int .i64 (0 : Nat)]) rfl) ?_
    refine op rfl (r_extract (vs := [.slice A2 (rec1 s x).length c2, .int .i64 (0 : Nat)]) rfl rfl) ?_
    refine op rfl (r_extract (vs := [.slice A2 (rec1 s x).length c2, .int .i64 (0 : Nat)]) rfl rfl) ?_
    refine op rfl (r_assignV (v := .slice A2 (rec1 s x).length c2) rfl) ?_
    refine op rfl (r_assignV (v := .int .i64 (0 : Nat)) rfl) ?_
    refine WL_nil ?_
    refine W_seq ?_
    refine W_seq ?_
    refine W_region ?_
    refine op rfl (r_moveV (v := .int .i64 (0 : Nat)) rfl) ?_
    refine op rfl (r_neq rfl rfl) ?_
    refine WL_nil ?_
    refine W_ifp rfl (fun ht19 => ?_) (fun ht19 => ?_)
    · exact absurd rfl ht19
    · refine W_skip ?_
      refine W_seq ?_
      refine W_region ?_
      refine op rfl (r_moveV (v := .pointer _) rfl) ?_
      refine op rfl (r_nilCheck rfl) ?_
      refine op rfl (r_fieldAddr rfl Try.fld64_0 rfl) ?_
      refine op rfl (r_load (v := .pointer _) rfl Try.underlying25 rfl (Blk.cell hbj rfl)) ?_
      refine op rfl (r_moveV (v := .slice A2 (rec1 s x).length c2) rfl) ?_
      refine opCv rfl (r_call Try.func11 Try.nm11 rfl) (append_faF hFA hw (by omega) 2 A2 c2 (rec1 s x) (by rw [rec1_len]; omega) hG hr2) ?_
      rintro v w3 ⟨rfl, hFA3, hFo3⟩
      refine op rfl (r_assignV (v := .int _ _) rfl) ?_
      refine WL_nil ?_
      refine W_ret (finX_ret ?_)
      refine fin1 ?_
      have hFo : Fo B F w w3 := (hFo3.weak (fun b hb => Or.inl hb)).pre hFl hB hE
      exact ⟨_, rfl, rfl, h.op (hFA3.weak (fun b hb => Or.inl hb)) hFo, hFo⟩
theorem jsync_spec {jb p B : Nat} {F : Nat → Prop} {w : World} {D : Dk} {s : Nat} (h : JA jb p B F w D s) {k : Nat} (hw : WF D k) (hk : k ≤ 268435456) :
    Calls Try.prog 15 #[jq jb] w (fun en w' => ∃ v, en = .returned v ∧ v = .int .i64 (D.sync 2).2 ∧ JA jb p B F w' (D.sync 2).1 s ∧ Fo B F w w') := by
  have hbj := h.bj
  refine calls' (n := 10) (rs := #[.tmp 2]) (l := [jq jb]) Try.func15 rfl rfl rfl rfl rfl ?_
  have hX := Ext.refl w
  refine W_seq ?_
  refine W_region ?_
  refine op rfl (r_assignV (v := .int _ _) rfl) ?_
  refine WL_nil ?_
  refine W_seq ?_
  refine W_seq ?_
  refine W_region ?_
  refine op rfl (r_moveV (v := jq jb) rfl) ?_
  refine op rfl (rp_eql rfl rfl Try.underlying27) ?_
  refine WL_nil ?_
  refine W_ifp rfl (fun ht4 => ?_) (fun ht4 => ?_)
  · exact ht4.elim
  · refine W_skip ?_
    refine W_seq ?_
    refine W_region ?_
    refine op rfl (r_moveV (v := .pointer _) rfl) ?_
    refine op rfl (r_nilCheck rfl) ?_
    refine op rfl (r_fieldAddr rfl Try.fld64_0 rfl) ?_
    refine op rfl (r_load (v := .pointer _) rfl Try.underlying25 rfl (Blk.cell hbj rfl)) ?_
    refine opCv rfl (r_call Try.func32 Try.nm32 rfl) (sync_fa h.fa hw (by omega) 2) ?_
    rintro v w3 ⟨rfl, hFA3, hFo3⟩
    refine op rfl (r_assignV (v := .int _ _) rfl) ?_
    refine WL_nil ?_
    refine W_ret (finX_ret ?_)
    refine fin1 ?_
    exact ⟨_, rfl, rfl, h.op hFA3 hFo3, hFo3⟩
theorem jsyncNil_spec (w : World) :
    Calls Try.prog 15 #[.pointer none] w (fun en w' => ∃ v, en = .returned v ∧ v = .int .i64 1 ∧ Ext w w') := by
  refine calls' (n := 10) (rs := #[.tmp 2]) (l := [.pointer none]) Try.func15 rfl rfl rfl rfl rfl ?_
  refine W_seq ?_
  refine W_region ?_
  refine op rfl (r_assignV (v := .int _ _) rfl) ?_
  refine WL_nil ?_
  refine W_seq ?_
  refine W_seq ?_
  refine W_region ?_
  refine op rfl (r_moveV (v := .pointer none) rfl) ?_
  refine op rfl (rpn_eql rfl rfl Try.underlying27) ?_
  refine WL_nil ?_
  refine W_then (rfl) ?_
  refine W_seq ?_
  refine W_region ?_
  refine op rfl (r_assignV (v := .int _ _) rfl) ?_
  refine WL_nil ?_
  refine W_ret (finX_ret ?_)
  refine fin1 ?_
  exact ⟨_, rfl, rfl, Ext.refl _⟩
theorem jseq_spec {jb p B : Nat} {F : Nat → Prop} {w : World} {D : Dk} {s : Nat} (h : JA jb p B F w D s) :
    Calls Try.prog 19 #[jq jb] w (fun en w' => ∃ v, en = .returned v ∧ v = .int .u64 s ∧ Ext w w') := by
  have hbj := h.bj
  refine calls' (n := 9) (rs := #[.tmp 2]) (l := [jq jb]) Try.func19 rfl rfl rfl rfl rfl ?_
  have hX := Ext.refl w
  refine W_seq ?_
  refine W_region ?_
  refine op rfl (r_assignV (v := .int _ _) rfl) ?_
  refine WL_nil ?_
  refine W_seq ?_
  refine W_seq ?_
  refine W_region ?_
  refine op rfl (r_moveV (v := jq jb) rfl) ?_
  refine op rfl (rp_eql rfl rfl Try.underlying27) ?_
  refine WL_nil ?_
  refine W_ifp rfl (fun ht4 => ?_) (fun ht4 => ?_)
  · exact ht4.elim
  · refine W_skip ?_
    refine W_seq ?_
    refine W_region ?_
    refine op rfl (r_moveV (v := .pointer _) rfl) ?_
    refine op rfl (r_nilCheck rfl) ?_
    refine op rfl (r_fieldAddr rfl Try.fld64_1 rfl) ?_
    refine op rfl (r_load (v := .int _ _) rfl Try.underlying42 rfl (Blk.cell hbj rfl)) ?_
    refine op rfl (r_assignV (v := .int _ _) rfl) ?_
    refine WL_nil ?_
    refine W_ret (finX_ret ?_)
    refine fin1 ?_
    exact ⟨_, rfl, rfl, hX⟩
theorem jused_spec {jb p B : Nat} {F : Nat → Prop} {w : World} {D : Dk} {s : Nat} (h : JA jb p B F w D s) {k : Nat} (hw : WF D k) (hk : k ≤ 268435456) :
    Calls Try.prog 12 #[jq jb] w (fun en w' => ∃ v, en = .returned v ∧ v = .int .i64 (D.read 2).length ∧ Ext w w') := by
  have hbj := h.bj
  refine calls' (n := 11) (rs := #[.tmp 2]) (l := [jq jb]) Try.func12 rfl rfl rfl rfl rfl ?_
  have hX := Ext.refl w
  refine W_seq ?_
  refine W_region ?_
  refine op rfl (r_assignV (v := .int _ _) rfl) ?_
  refine WL_nil ?_
  refine W_seq ?_
  refine W_seq ?_
  refine W_region ?_
  refine op rfl (r_moveV (v := jq jb) rfl) ?_
  refine op rfl (rp_eql rfl rfl Try.underlying27) ?_
  refine WL_nil ?_
  refine W_ifp rfl (fun ht4 => ?_) (fun ht4 => ?_)
  · exact ht4.elim
  · refine W_skip ?_
    refine W_seq ?_
    refine W_region ?_
    refine op rfl (r_moveV (v := .pointer _) rfl) ?_
    refine op rfl (r_nilCheck rfl) ?_
    refine op rfl (r_fieldAddr rfl Try.fld64_0 rfl) ?_
    refine op rfl (r_load (v := .pointer _) rfl Try.underlying25 rfl (Blk.cell hbj rfl)) ?_
    refine opCv rfl (r_call Try.func20 Try.nm20 rfl) (read_da h.fa.da hw (by omega) 2) ?_
    rintro v w3 ⟨A, c, rfl, hE, hr⟩
    replace hbj := Blk.ext hbj hE
    replace hX := hX.trans hE
    refine op rfl (r_len_slice rfl Try.underlying23) ?_
    refine op rfl (r_assignV (v := .int _ _) rfl) ?_
    refine WL_nil ?_
    refine W_ret (finX_ret ?_)
    refine fin1 ?_
    exact ⟨_, rfl, rfl, hX⟩
end Go.Proofs.Ytlidigdlcjhkfaa
