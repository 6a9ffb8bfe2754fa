/-
  How long what is done is; small.
-/
import Derived.Test.YtmedmajdoecjfaaDoorFacts
import Derived.Test.YtmedmajdoecjfaaDoorQueD
namespace Go.Proofs.YtmedmajdoecjfaaDoor
open Go Go.Eng Go.RowKit Go.Proofs
set_option linter.unusedVariables false
set_option linter.unusedSimpArgs false
set_option maxHeartbeats 1000000
set_option maxRecDepth 20000

theorem longDo_spec {A : Option Addr} {cap : Nat} {l : List Dq} {w : World} (hrow : doT.Row w (old w) A l) (hl : l.length ≤ 140737488355328) :
    Calls Tryd.prog 28 #[.slice A l.length cap] w (fun en w' => ∃ v, en = .returned v ∧ ∃ n, v = .int .i64 n ∧ Ext w w') := by
  have hat := do_at hrow; refine calls' (n := 23) (rs := #[.tmp 2]) (l := [.slice A l.length cap]) Tryd.func28 rfl rfl rfl rfl rfl ?_; have hX := Ext.refl w; refine W_seq ?_; refine W_region ?_; refine op rfl (r_assignV (v := .int _ _) rfl) ?_; refine WL_nil ?_; refine W_seq ?_; refine W_region ?_; refine op rfl (r_assignV (v := .int _ _) rfl) ?_; refine WL_nil ?_; refine W_seq ?_; refine W_seq ?_; refine W_region ?_; refine op rfl (r_assignV (v := .int _ _) rfl) ?_; refine WL_nil ?_; refine W_block ?_; refine W_loop [3, 4, 5, 6, 7, 8, 9, 10, 11, 12, 13, 14, 15, 16, 17, 18, 19, 20, 21] (fun q e' w' => ∃ (i : Nat) (n : Int), q = l.length - i ∧ i ≤ l.length ∧ e' 4 = .int .i64 i ∧ e' 3 = .int .i64 n ∧ Ext w w') (l.length) ?_ ?_
  · exact ⟨0, _, by omega, by omega, rfl, rfl, hX⟩
  intro k g w' hI; obtain ⟨i, n, hq, hi, h4, h3, hX'⟩ := hI; clear hX; have hX := hX'; refine W_set (i := 4) h4 ?_; refine W_set (i := 3) h3 ?_; refine W_seq ?_; refine W_seq ?_; refine W_region ?_; refine op rfl (r_moveV (v := .int _ _) rfl) ?_; refine op rfl (r_moveV (v := .slice _ _ _) rfl) ?_; refine op rfl (r_len_slice rfl Tryd.underlying66) ?_; refine op rfl (r_lss rfl rfl) ?_; refine WL_nil ?_; refine W_ifp rfl (fun ht8 => ?_) (fun ht8 => ?_)
  · have hlt : i < l.length := by omega
    obtain ⟨g1, off1, Ai, ci, hA, _, _, _, hci, hbl, hrr, hcr, hcell⟩ := hat i hlt; refine W_skip ?_; refine W_seq ?_; refine W_block ?_; refine W_region ?_; refine op rfl (r_moveV (v := .int _ _) rfl) ?_; refine op rfl (r_add rfl rfl) ?_; refine op rfl (r_moveV (v := .slice _ _ _) rfl) ?_; refine op rfl (r_moveV (v := .int _ _) rfl) ?_; refine op rfl (r_indexAddrK (by rw [← hA]; rfl) rfl Tryd.underlying66 Tryd.sz72 hlt) ?_; refine op rfl (r_fieldAddr rfl Tryd.fld72_1 rfl) ?_; refine op rfl (r_fieldAddr rfl Tryd.fld41_2 rfl) ?_; refine op rfl (r_load (v := .slice Ai l[i].r.l.length ci) rfl Tryd.underlying39 rfl (ext_cell hX (hcr 2 (by omega)))) ?_; refine op_newS rfl (r_buildSlice (vs := [.slice Ai l[i].r.l.length ci]) Tryd.underlying52 Tryd.sz39 Tryd.zero39 rfl rfl rfl) ?_; intro w5 b5 E5 B5 L5; replace hX := hX.trans E5
    have hrow5 : dlsT.Row w5 (old w5) (some ⟨b5, 0, none⟩) [l[i].r.l] := Blk.row B5 (Blk.lt B5) (fun i' hi' => by
      obtain rfl : i' = 0 := by simp at hi'; omega
      exact ⟨_, ⟨⟨Ai, ci, rfl, hci, by show l[i].r.l.length ≤ 140737488355328; omega, hrr.ext hX⟩, hbl⟩, fun j hj => by
        have : dlsT.sz = 1 := rfl
        simp only [this] at hj ⊢
        obtain rfl : j = 0 := by omega
        rfl⟩)
    refine opCv rfl (r_call Tryd.func20 Tryd.nm20 rfl) (longL_spec (cap := 1) (l := [l[i].r.l]) hrow5 (by simp)) ?_; rintro v5 w5a ⟨n5, rfl, hE⟩; replace hX := hX.trans hE; refine op rfl (r_add rfl rfl) ?_; refine op rfl (r_assignV (v := .int _ _) rfl) ?_; refine WL_nil ?_; refine W_region ?_; refine op rfl (r_moveV (v := .int _ _) rfl) ?_; refine op rfl (r_add' (r := ((i + 1 : Nat) : Int)) rfl rfl (by rw [wrap_i64 (by omega) (by omega)]; omega)) ?_; refine op rfl (r_assignV (v := .int _ _) rfl) ?_; refine WL_nil ?_; refine ⟨?_, by repeat (first | with_reducible exact Out.refl _ _ | with_reducible exact Out.mix | refine Out.put rfl ?_ | refine Out.mixin rfl ?_ | exact Out.refl _ _ | exact Out.mix)⟩; exact ⟨l.length - (i + 1), by omega, i + 1, _, rfl, by omega, rfl, rfl, hX⟩
  · refine W_exit (blk_hit ?_); refine W_seq ?_; refine W_region ?_; refine op rfl (r_moveV (v := .int _ _) rfl) ?_; refine op rfl (r_assignV (v := .int _ _) rfl) ?_; refine WL_nil ?_; refine W_ret (finX_ret ?_); refine fin1 ?_; exact ⟨_, rfl, _, rfl, hX⟩
theorem smallQ_spec {A : Option Addr} {cap : Nat} {t : Tree} {Al : Option Addr} {cl : Nat} {l : List Dq} {w : World} (hrow : fiT.Row w (old w) A t) (hl : t.length ≤ 140737488355328) (hrowl : doT.Row w (old w) Al l) (hll : l.length ≤ 140737488355328) :
    Calls Tryd.prog 29 #[.slice A t.length cap, .slice Al l.length cl] w (fun en w' => ∃ v, en = .returned v ∧ ∃ q : Prop, ∃ dq : Decidable q, v = .bool (@decide q dq) ∧ (q → t.length ≤ 20 ∧ l.length ≤ 30) ∧ Ext w w') := by
  refine calls' (n := 23) (rs := #[.tmp 4]) (l := [.slice A t.length cap, .slice Al l.length cl]) Tryd.func29 rfl rfl rfl rfl rfl ?_; have hX := Ext.refl w; refine W_seq ?_; refine W_region ?_; refine op rfl (r_assignV (v := .bool _) rfl) ?_; refine WL_nil ?_; refine W_seq ?_; refine W_region ?_; refine op rfl (r_moveV (v := .slice _ _ _) rfl) ?_; refine op rfl (r_len_slice rfl Tryd.underlying23) ?_; refine op rfl (r_leq rfl rfl) ?_; refine op_split rfl (r_moveV (v := .bool (decide _)) rfl) (fun hg8 => ?_) (fun hg8 => ?_)
  · refine opG_yes rfl rfl rfl rfl rfl (r_moveV (v := .slice _ _ _) rfl) ?_; refine opGCv_yes rfl rfl rfl rfl rfl (r_call Tryd.func10 Tryd.nm10 rfl) (long_spec (hrow.ext hX) hl) ?_; rintro v2 w2 ⟨n2, rfl, hE⟩; replace hX := hX.trans hE; refine opG_yes rfl rfl rfl rfl rfl (r_leq rfl rfl) ?_; refine op rfl (r_pickTV (v := .bool _) rfl rfl) ?_; refine op_split rfl (r_moveV (v := .bool (decide _)) rfl) (fun hg13 => ?_) (fun hg13 => ?_)
    · refine opG_yes rfl rfl rfl rfl rfl (r_moveV (v := .slice _ _ _) rfl) ?_; refine opG_yes rfl rfl rfl rfl rfl (r_len_slice rfl Tryd.underlying66) ?_; refine opG_yes rfl rfl rfl rfl rfl (r_leq rfl rfl) ?_; refine op rfl (r_pickTV (v := .bool _) rfl rfl) ?_; refine op_split rfl (r_moveV (v := .bool (decide _)) rfl) (fun hg18 => ?_) (fun hg18 => ?_)
      · refine opG_yes rfl rfl rfl rfl rfl (r_moveV (v := .slice _ _ _) rfl) ?_; refine opGCv_yes rfl rfl rfl rfl rfl (r_call Tryd.func28 Tryd.nm28 rfl) (longDo_spec (hrowl.ext hX) hll) ?_; rintro v3 w3 ⟨n3, rfl, hE⟩; replace hX := hX.trans hE; refine opG_yes rfl rfl rfl rfl rfl (r_leq rfl rfl) ?_; refine op rfl (r_pickTV (v := .bool _) rfl rfl) ?_; refine op rfl (r_assignV (v := .bool _) rfl) ?_; refine WL_nil ?_; refine W_ret (finX_ret ?_); refine fin1 ?_
        first
          | exact ⟨_, rfl, False, inferInstance, rfl, fun q => q.elim, hX⟩
          | exact ⟨_, rfl, _, _, rfl, fun _ => ⟨by omega, by omega⟩, hX⟩
      · refine opG_no rfl rfl rfl rfl rfl ?_; refine opG_no rfl rfl rfl rfl rfl ?_; refine opG_no rfl rfl rfl rfl rfl ?_; refine op rfl (r_pickFV (v := .bool _) rfl rfl) ?_; refine op rfl (r_assignV (v := .bool _) rfl) ?_; refine WL_nil ?_; refine W_ret (finX_ret ?_); refine fin1 ?_
        first
          | exact ⟨_, rfl, False, inferInstance, rfl, fun q => q.elim, hX⟩
          | exact ⟨_, rfl, _, _, rfl, fun _ => ⟨by omega, by omega⟩, hX⟩
    · refine opG_no rfl rfl rfl rfl rfl ?_; refine opG_no rfl rfl rfl rfl rfl ?_; refine opG_no rfl rfl rfl rfl rfl ?_; refine op rfl (r_pickFV (v := .bool _) rfl rfl) ?_; refine op rfl (r_moveV (v := .bool _) rfl) ?_; refine opG_no rfl rfl rfl rfl rfl ?_; refine opG_no rfl rfl rfl rfl rfl ?_; refine opG_no rfl rfl rfl rfl rfl ?_; refine op rfl (r_pickFV (v := .bool _) rfl rfl) ?_; refine op rfl (r_assignV (v := .bool _) rfl) ?_; refine WL_nil ?_; refine W_ret (finX_ret ?_); refine fin1 ?_
      first
        | exact ⟨_, rfl, False, inferInstance, rfl, fun q => q.elim, hX⟩
        | exact ⟨_, rfl, _, _, rfl, fun _ => ⟨by omega, by omega⟩, hX⟩
  · refine opG_no rfl rfl rfl rfl rfl ?_; refine opG_no rfl rfl rfl rfl rfl ?_; refine opG_no rfl rfl rfl rfl rfl ?_; refine op rfl (r_pickFV (v := .bool _) rfl rfl) ?_; refine op rfl (r_moveV (v := .bool _) rfl) ?_; refine opG_no rfl rfl rfl rfl rfl ?_; refine opG_no rfl rfl rfl rfl rfl ?_; refine opG_no rfl rfl rfl rfl rfl ?_; refine op rfl (r_pickFV (v := .bool _) rfl rfl) ?_; refine op rfl (r_moveV (v := .bool _) rfl) ?_; refine opG_no rfl rfl rfl rfl rfl ?_; refine opG_no rfl rfl rfl rfl rfl ?_; refine opG_no rfl rfl rfl rfl rfl ?_; refine op rfl (r_pickFV (v := .bool _) rfl rfl) ?_; refine op rfl (r_assignV (v := .bool _) rfl) ?_; refine WL_nil ?_; refine W_ret (finX_ret ?_); refine fin1 ?_
    first
      | exact ⟨_, rfl, False, inferInstance, rfl, fun q => q.elim, hX⟩
      | exact ⟨_, rfl, _, _, rfl, fun _ => ⟨by omega, by omega⟩, hX⟩
end Go.Proofs.YtmedmajdoecjfaaDoor
