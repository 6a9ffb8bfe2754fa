/-
  A word is the text again, has no blank, and no line feed; two texts have one word just if they are the same: the walk.
-/
import Derived.Test.YtafcaigjijajnaaDoorFacts
import Derived.Test.YtafcaigjijajnaaDoorRuleGl
namespace Go.Proofs.YtafcaigjijajnaaDoor
open Go Go.Eng Go.RowKit Go.Proofs
set_option linter.unusedVariables false
set_option linter.unusedSimpArgs false
set_option maxHeartbeats 1000000
set_option maxRecDepth 20000

theorem quote_iff {s t : List UInt8} : quoteB s = quoteB t ↔ s = t := ⟨quote_inj, fun h => by rw [h]⟩
theorem ruleQuotes_walk (s t : List UInt8) (W : World) (hG : Gl W) (hs : s.length ≤ 140737488355328) (ht : t.length ≤ 140737488355328) :
    Calls Tryd.prog 6 #[.string (str s), .string (str t)] W (fun en w' => ∃ v, en = .returned v ∧ v = .bool true ∧ Ext W w') := by
  have hU : ∀ w, Gl w → s.length ≤ 800 → Calls Tryd.prog 14 #[.string (str (quoteB s))] w (fun en w' => ∃ v, en = .returned v ∧ v = .tuple #[sv s, .bool (decide True)] ∧ Ext w w') := fun w hw hs => by
    have := unquote_spec (quoteB s) w hw (by have := quote_len s; omega)
    rw [unqP_iff.2 (rfl : quoteB s = quoteB s)] at this
    exact this
  have hqw : ∀ i (h : i < (quoteB s).length), 33 ≤ (quoteB s)[i].toNat ∧ (quoteB s)[i].toNat ≤ 126 := fun i h => quote_word s _ (List.getElem_mem h)
  have hql := quote_len s
  refine calls' (n := 65) (rs := #[.tmp 4]) (l := [.string (str s), .string (str t)]) Tryd.func6 rfl rfl rfl rfl rfl ?_
  have hX := Ext.refl W
  refine W_seq ?_
  refine W_region ?_
  refine op rfl (r_assignV (v := .bool _) rfl) ?_
  refine WL_nil ?_
  refine W_seq ?_
  refine W_seq ?_
  refine W_region ?_
  refine op rfl (r_moveV (v := .string _) rfl) ?_
  refine op rfl (rt_len rfl Tryd.underlying9) ?_
  refine op rfl (r_moveV (v := .string _) rfl) ?_
  refine op rfl (rt_len rfl Tryd.underlying9) ?_
  refine op rfl (r_add' rfl rfl (wrap_i64 (by omega) (by omega))) ?_
  refine op rfl (r_gtr rfl rfl) ?_
  refine WL_nil ?_
  refine W_ifp rfl (fun ht15 => ?_) (fun ht15 => ?_)
  · refine W_seq ?_
    refine W_region ?_
    refine opCv rfl (r_call Tryd.func11 Tryd.nm11 rfl) (known11_spec _ (hG.ext hX)) ?_
    rintro v2 w2 ⟨rfl, hE⟩
    replace hX := hX.trans hE
    refine op rfl (r_assignV (v := .bool _) rfl) ?_
    refine WL_nil ?_
    refine W_ret (finX_ret ?_)
    refine fin1 ?_
    exact ⟨_, rfl, rfl, hX⟩
  · refine W_skip ?_
    refine W_seq ?_
    refine W_region ?_
    refine op rfl (r_moveV (v := .string _) rfl) ?_
    refine opCv rfl (r_call Tryd.func17 Tryd.nm17 rfl) (quote_spec s _ (by omega)) ?_
    rintro v3 w3 ⟨rfl, hE⟩
    replace hX := hX.trans hE
    refine op rfl (r_assignV (v := .string _) rfl) ?_
    refine WL_nil ?_
    refine W_seq ?_
    refine W_region ?_
    refine op rfl (r_moveV (v := .string _) rfl) ?_
    refine opCv rfl (r_call Tryd.func17 Tryd.nm17 rfl) (quote_spec t _ (by omega)) ?_
    rintro v4 w4 ⟨rfl, hE⟩
    replace hX := hX.trans hE
    refine op rfl (r_assignV (v := .string _) rfl) ?_
    refine WL_nil ?_
    refine W_seq ?_
    refine W_region ?_
    refine op rfl (r_moveV (v := .string _) rfl) ?_
    refine opCv rfl (r_call Tryd.func14 Tryd.nm14 rfl) (hU _ (hG.ext hX) (by omega)) ?_
    rintro v5 w5 ⟨rfl, hE⟩
    replace hX := hX.trans hE
    refine op rfl (r_moveV (v := .tuple #[sv s, .bool (decide True)]) rfl) ?_
    refine op rfl (r_extract (vs := [sv s, .bool (decide True)]) rfl rfl) ?_
    refine op rfl (r_extract (vs := [sv s, .bool (decide True)]) rfl rfl) ?_
    refine op rfl (r_assignV (v := sv s) rfl) ?_
    refine op rfl (r_assignV (v := .bool (decide True)) rfl) ?_
    refine WL_nil ?_
    refine W_seq ?_
    refine W_seq ?_
    refine W_region ?_
    refine op rfl (r_assignV (v := .int _ _) rfl) ?_
    refine WL_nil ?_
    refine W_block ?_
    refine W_loop [4, 9, 26, 27, 28, 29, 30, 31, 32, 33, 34, 35, 36, 37, 38, 39, 40, 41] (fun q e' w' => ∃ i : Nat, q = (quoteB s).length - i ∧ i ≤ (quoteB s).length ∧ e' 9 = .int .i64 i ∧ Ext W w') ((quoteB s).length) ?_ ?_
    · exact ⟨0, by omega, by omega, rfl, hX⟩
    intro k g w' hI
    obtain ⟨i, hq, hi, h9, hX'⟩ := hI
    clear hX
    have hX := hX'
    refine W_set (i := 9) h9 ?_
    refine W_seq ?_
    refine W_seq ?_
    refine W_region ?_
    refine op rfl (r_moveV (v := .int _ _) rfl) ?_
    refine op rfl (r_moveV (v := .string _) rfl) ?_
    refine op rfl (rt_len rfl Tryd.underlying9) ?_
    refine op rfl (r_lss rfl rfl) ?_
    refine WL_nil ?_
    refine W_ifp rfl (fun ht29 => ?_) (fun ht29 => ?_)
    · have hlt : i < (quoteB s).length := by omega
      have hci := hqw i hlt
      refine W_skip ?_
      refine W_seq ?_
      refine W_block ?_
      refine W_seq ?_
      refine W_region ?_
      refine op rfl (r_moveV (v := .string _) rfl) ?_
      refine op rfl (r_moveV (v := .int _ _) rfl) ?_
      refine op rfl (rt_index (l := quoteB s) (i := i) rfl rfl Tryd.underlying9 hlt) ?_
      refine op rfl (r_leq rfl rfl) ?_
      refine op_false rfl (r_moveV (v := .bool (decide _)) rfl) (by omega) ?_
      refine opG_yes rfl rfl rfl rfl rfl (r_moveV (v := .string _) rfl) ?_
      refine opG_yes rfl rfl rfl rfl rfl (r_moveV (v := .int _ _) rfl) ?_
      refine opG_yes rfl rfl rfl rfl rfl (rt_index (l := quoteB s) (i := i) rfl rfl Tryd.underlying9 hlt) ?_
      refine opG_yes rfl rfl rfl rfl rfl (r_gtr rfl rfl) ?_
      refine op rfl (r_pickFV (v := .bool _) rfl rfl) ?_
      refine WL_nil ?_
      refine W_ifp rfl (fun ht41 => ?_) (fun ht41 => ?_)
      · exact absurd ht41 (by omega)
      · refine W_skip ?_
        refine W_region ?_
        refine op rfl (r_moveV (v := .int _ _) rfl) ?_
        refine op rfl (r_add' (r := ((i + 1 : Nat) : Int)) rfl rfl (by rw [wrap_i64 (by omega) (by omega)]; omega)) ?_
        refine op rfl (r_assignV (v := .int _ _) rfl) ?_
        refine WL_nil ?_
        refine ⟨?_, by repeat (first | with_reducible exact Out.refl _ _ | with_reducible exact Out.mix | refine Out.put rfl ?_ | refine Out.mixin rfl ?_ | exact Out.refl _ _ | exact Out.mix)⟩
        exact ⟨(quoteB s).length - (i + 1), by omega, i + 1, rfl, by omega, rfl, hX⟩
    · refine W_exit (blk_hit ?_)
      refine W_seq ?_
      refine W_region ?_
      refine op rfl (r_moveV (v := .bool (decide True)) rfl) ?_
      refine op_true rfl (r_moveV (v := .bool (decide _)) rfl) (trivial) ?_
      refine opG_yes rfl rfl rfl rfl rfl (r_moveV (v := sv s) rfl) ?_
      refine opG_yes rfl rfl rfl rfl rfl (r_moveV (v := .string _) rfl) ?_
      refine opG_yes rfl rfl rfl rfl rfl (rt_eql rfl rfl) ?_
      refine op rfl (r_pickTV (v := .bool _) rfl rfl) ?_
      refine op_true rfl (r_moveV (v := .bool (decide _)) rfl) (rfl) ?_
      refine opG_yes rfl rfl rfl rfl rfl (r_moveV (v := .string _) rfl) ?_
      refine opG_yes rfl rfl rfl rfl rfl (rt_len rfl Tryd.underlying9) ?_
      refine opG_yes rfl rfl rfl rfl rfl (r_gtr rfl rfl) ?_
      refine op rfl (r_pickTV (v := .bool _) rfl rfl) ?_
      refine op_true rfl (r_moveV (v := .bool (decide _)) rfl) (by have := List.length_pos_iff.2 (quote_ne s); omega) ?_
      refine opG_yes rfl rfl rfl rfl rfl (r_moveV (v := .string _) rfl) ?_
      refine opG_yes rfl rfl rfl rfl rfl (r_moveV (v := .string _) rfl) ?_
      refine opG_yes rfl rfl rfl rfl rfl (rt_eql rfl rfl) ?_
      refine opG_yes rfl rfl rfl rfl rfl (r_moveV (v := .string _) rfl) ?_
      refine opG_yes rfl rfl rfl rfl rfl (r_moveV (v := .string _) rfl) ?_
      refine opG_yes rfl rfl rfl rfl rfl (rt_eql rfl rfl) ?_
      refine opG_yes rfl rfl rfl rfl rfl (rb_eql rfl rfl Tryd.underlying4) ?_
      refine op rfl (r_pickTV (v := .bool _) rfl rfl) ?_
      refine op_true rfl (r_moveV (v := .bool (decide _)) rfl) (by simp only [quote_iff]) ?_
      refine opGCv_yes rfl rfl rfl rfl rfl (r_call Tryd.func11 Tryd.nm11 rfl) (known11_spec _ (hG.ext hX)) ?_
      rintro v11 w11 ⟨rfl, hE⟩
      replace hX := hX.trans hE
      refine op rfl (r_pickTV (v := .bool _) rfl rfl) ?_
      refine op rfl (r_assignV (v := .bool _) rfl) ?_
      refine WL_nil ?_
      refine W_ret (finX_ret ?_)
      refine fin1 ?_
      exact ⟨_, rfl, rfl, hX⟩
theorem ruleQuotes_row (W : World) (hG : Gl W) (a : ByteArray) (ha : a.size ≤ big) (b : ByteArray) (hb : b.size ≤ big) :
    Calls Tryd.prog 6 #[.string a, .string b] W (fun e W' => ∃ v, e = .returned v ∧ v = .bool true ∧ Ext W W') := by
  obtain ⟨p, rfl⟩ : ∃ l, a = str l := ⟨a.data.toList, (str_of a).symm⟩
  obtain ⟨q, rfl⟩ : ∃ l, b = str l := ⟨b.data.toList, (str_of b).symm⟩
  exact ruleQuotes_walk p q W hG ha hb
end Go.Proofs.YtafcaigjijajnaaDoor
