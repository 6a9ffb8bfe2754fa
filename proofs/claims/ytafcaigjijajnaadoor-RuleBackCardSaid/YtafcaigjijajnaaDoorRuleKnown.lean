/-
  The walk of what the chapter's example fixes.
-/
import Derived.Test.YtafcaigjijajnaaDoorFacts
import Derived.Test.YtafcaigjijajnaaDoorRuleParse
namespace Go.Proofs.YtafcaigjijajnaaDoor
open Go Go.Eng Go.RowKit Go.Proofs
set_option linter.unusedVariables false
set_option linter.unusedSimpArgs false
set_option maxHeartbeats 1000000
set_option maxRecDepth 20000

abbrev ru0 : Ru := ⟨1, [42, 42], [97], [98]⟩
abbrev txt0 : List UInt8 := [114, 101, 112, 108, 97, 99, 101, 32, 42, 42, 32, 97, 32, 98, 10]
theorem ru0_right : ruR ru0 := by decide +kernel
theorem print0 : printR [ru0] = (txt0, 0) := by decide +kernel
theorem parse0 : parseR txt0 = ([ru0], 0) := by decide +kernel
theorem parse1 : parseR [114, 101, 112, 108, 97, 99, 101, 32, 42, 42, 32, 97, 45, 98, 32, 99] = ([], 11) := by decide +kernel
/-- Rules' row, of one that may be. -/
theorem row_ru {w : World} {b : Nat} {r : Ru} (hb : Blk w b r.vals.toArray 35) (hr : ∀ w F, ruT.R w F r r.vals) : ruT.Row w (old w) (some ⟨b, 0, none⟩) [r] :=
  Blk.row hb hb.lt fun i hi => by
    have hi1 : i < 1 := hi
    obtain rfl : i = 0 := by omega
    exact ⟨r.vals, hr _ _, fun j hj => by rw [Nat.zero_mul, Nat.zero_add, List.getElem?_toArray]⟩
theorem known11_spec (w : World) (hG : Gl w) :
    Calls Tryd.prog 11 #[] w (fun en w' => ∃ v, en = .returned v ∧ v = .bool true ∧ Ext w w') := by
  have hP : ∀ W b, Gl W → Blk W b ru0.vals.toArray 35 → Calls Tryd.prog 22 #[.slice (some ⟨b, 0, none⟩) 1 1] W (fun en w' => ∃ v, en = .returned v ∧ v = .tuple #[sv txt0, .int .i64 0] ∧ Ext W w') := fun W b hW hB => by
    have := print_spec (c := 1) (l := [ru0]) hW (row_ru hB (fun _ _ => ru_right ru0_right)) (by simp) (fun r h => by rw [List.mem_singleton.1 h]; decide)
    rw [print0] at this
    exact this
  have hQ : ∀ W, Gl W → Calls Tryd.prog 12 #[sv txt0] W (fun en w' => ∃ v, en = .returned v ∧ ∃ r, v = .tuple #[r, .int .i64 0] ∧ OwnRu w' W.heap.size r [ru0] ∧ Ext W w') := fun W hW => by
    have := parse_spec txt0 W hW (by decide)
    rw [parse0] at this
    exact this
  have hR : ∀ W, Gl W → Calls Tryd.prog 12 #[sv [114, 101, 112, 108, 97, 99, 101, 32, 42, 42, 32, 97, 45, 98, 32, 99]] W (fun en w' => ∃ v, en = .returned v ∧ ∃ r, v = .tuple #[r, .int .i64 11] ∧ OwnRu w' W.heap.size r [] ∧ Ext W w') := fun W hW => by
    have := parse_spec [114, 101, 112, 108, 97, 99, 101, 32, 42, 42, 32, 97, 45, 98, 32, 99] W hW (by decide)
    rw [parse1] at this
    exact this
  refine calls' (n := 48) (rs := #[.tmp 0]) (l := []) Tryd.func11 rfl rfl rfl rfl rfl ?_
  have hX := Ext.refl w
  refine W_seq ?_
  refine W_region ?_
  refine op rfl (r_assignV (v := .bool _) rfl) ?_
  refine WL_nil ?_
  refine W_seq ?_
  refine W_region ?_
  refine op rfl (r_build (cs := [.int _ _, .string _, .string _, .string _]) Tryd.lay35 (List.forall_mem_cons.2 ⟨rfl, List.forall_mem_cons.2 ⟨rfl, List.forall_mem_cons.2 ⟨rfl, List.forall_mem_cons.2 ⟨rfl, fun _ h => by cases h⟩⟩⟩⟩) rfl rfl) ?_
  refine op_newS rfl (r_buildRows (vs := [[.int _ _, .string _, .string _, .string _]]) Tryd.underlying23 Tryd.sz35 Tryd.zero35 rfl rfl rfl) ?_
  intro w1_1 b1_1 E1_1 B1_1 L1_1
  have hG1_1 : w.heap.size ≤ b1_1 := by have := hX.size; omega
  replace hX := hX.trans E1_1
  refine opCv rfl (r_call Tryd.func22 Tryd.nm22 rfl) (hP _ _ (hG.ext hX) B1_1) ?_
  rintro v1 w1 ⟨rfl, hE⟩
  replace B1_1 := Blk.ext B1_1 hE
  replace hX := hX.trans hE
  refine op rfl (r_moveV (v := .tuple #[sv txt0, .int .i64 0]) rfl) ?_
  refine op rfl (r_extract (vs := [sv txt0, .int .i64 0]) rfl rfl) ?_
  refine op rfl (r_extract (vs := [sv txt0, .int .i64 0]) rfl rfl) ?_
  refine op rfl (r_assignV (v := sv txt0) rfl) ?_
  refine op rfl (r_assignV (v := .int .i64 0) rfl) ?_
  refine WL_nil ?_
  refine W_seq ?_
  refine W_region ?_
  refine op rfl (r_moveV (v := sv txt0) rfl) ?_
  refine opCv rfl (r_call Tryd.func12 Tryd.nm12 rfl) (hQ _ (hG.ext hX)) ?_
  rintro v2 w2 ⟨r2, rfl, hO2, hE⟩
  replace B1_1 := Blk.ext B1_1 hE
  replace hX := hX.trans hE
  obtain ⟨A2, c2, rfl, hc2, hr2⟩ := own_frow hO2
  obtain ⟨g2, o2, hA2, -, -, -, -, -, hce2⟩ := ru_at hr2 0 (by simp)
  have hX2 := hX
  refine op rfl (r_moveV (v := .tuple #[.slice A2 1 c2, .int .i64 0]) rfl) ?_
  refine op rfl (r_extract (vs := [.slice A2 1 c2, .int .i64 0]) rfl rfl) ?_
  refine op rfl (r_extract (vs := [.slice A2 1 c2, .int .i64 0]) rfl rfl) ?_
  refine op rfl (r_assignV (v := .slice A2 1 c2) rfl) ?_
  refine op rfl (r_assignV (v := .int .i64 0) rfl) ?_
  refine WL_nil ?_
  refine W_seq ?_
  refine W_region ?_
  refine opCv rfl (r_call Tryd.func12 Tryd.nm12 rfl) (hR _ (hG.ext hX)) ?_
  rintro v3 w3 ⟨r3, rfl, hO3, hE⟩
  replace B1_1 := Blk.ext B1_1 hE
  replace hX := hX.trans hE
  obtain ⟨A3, c3, rfl, hc3, hr3⟩ := own_frow hO3
  have hE3 := hE
  refine op rfl (r_moveV (v := .tuple #[.slice A3 0 c3, .int .i64 11]) rfl) ?_
  refine op rfl (r_extract (vs := [.slice A3 0 c3, .int .i64 11]) rfl rfl) ?_
  refine op rfl (r_extract (vs := [.slice A3 0 c3, .int .i64 11]) rfl rfl) ?_
  refine op rfl (r_assignV (v := .slice A3 0 c3) rfl) ?_
  refine op rfl (r_assignV (v := .int .i64 11) rfl) ?_
  refine WL_nil ?_
  refine W_seq ?_
  refine W_region ?_
  refine op rfl (r_moveV (v := .int .i64 0) rfl) ?_
  refine op rfl (r_eql rfl rfl) ?_
  refine op_true rfl (r_moveV (v := .bool (decide _)) rfl) (rfl) ?_
  refine opG_yes rfl rfl rfl rfl rfl (r_moveV (v := .int .i64 0) rfl) ?_
  refine opG_yes rfl rfl rfl rfl rfl (r_eql rfl rfl) ?_
  refine op rfl (r_pickTV (v := .bool _) rfl rfl) ?_
  refine op_true rfl (r_moveV (v := .bool (decide _)) rfl) (rfl) ?_
  refine opG_yes rfl rfl rfl rfl rfl (r_moveV (v := .int .i64 11) rfl) ?_
  refine opG_yes rfl rfl rfl rfl rfl (r_eql rfl rfl) ?_
  refine op rfl (r_pickTV (v := .bool _) rfl rfl) ?_
  refine op_true rfl (r_moveV (v := .bool (decide _)) rfl) (rfl) ?_
  refine opG_yes rfl rfl rfl rfl rfl (r_moveV (v := sv txt0) rfl) ?_
  refine opG_yes rfl rfl rfl rfl rfl (rt_eql rfl rfl) ?_
  refine op rfl (r_pickTV (v := .bool _) rfl rfl) ?_
  refine op_true rfl (r_moveV (v := .bool (decide _)) rfl) (rfl) ?_
  refine opG_yes rfl rfl rfl rfl rfl (r_moveV (v := .slice A2 1 c2) rfl) ?_
  refine opG_yes rfl rfl rfl rfl rfl (r_len_slice rfl Tryd.underlying23) ?_
  refine opG_yes rfl rfl rfl rfl rfl (r_eql rfl rfl) ?_
  refine op rfl (r_pickTV (v := .bool _) rfl rfl) ?_
  refine op_true rfl (r_moveV (v := .bool (decide _)) rfl) (rfl) ?_
  refine opG_yes rfl rfl rfl rfl rfl (r_moveV (v := .slice A2 1 c2) rfl) ?_
  refine opG_yes rfl rfl rfl rfl rfl (r_indexAddrK (i := 0) (n := 1) (by rw [← hA2]; rfl) rfl Tryd.underlying23 Tryd.sz35 (by decide)) ?_
  refine opG_yes rfl rfl rfl rfl rfl (r_fieldAddr rfl Tryd.fld35_3 rfl) ?_
  refine opG_yes rfl rfl rfl rfl rfl (r_load (v := sv [98]) rfl Tryd.underlying9 rfl (ext_cell hE3 (hce2 3 (by decide)))) ?_
  refine opG_yes rfl rfl rfl rfl rfl (rt_eql rfl rfl) ?_
  refine op rfl (r_pickTV (v := .bool _) rfl rfl) ?_
  refine op rfl (r_assignV (v := .bool _) rfl) ?_
  refine WL_nil ?_
  refine W_ret (finX_ret ?_)
  refine fin1 ?_
  exact ⟨_, rfl, by first | rfl | decide, hX⟩
end Go.Proofs.YtafcaigjijajnaaDoor
