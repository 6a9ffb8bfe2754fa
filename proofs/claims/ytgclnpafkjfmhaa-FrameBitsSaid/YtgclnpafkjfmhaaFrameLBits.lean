/-
  The walk of a law of chapter 05, but for its row.
-/
import Derived.Test.YtgclnpafkjfmhaaFacts
import Derived.Test.YtgclnpafkjfmhaaFrameK
import Derived.Test.YtgclnpafkjfmhaaFrameB
namespace Go.Proofs.Ytgclnpafkjfmhaa
open Go Go.Eng Go.RowKit Go.Proofs
set_option linter.unusedVariables false

theorem bitOf {m : Nat} (h : m < 8) : IntKind.wrap .u8 (1 * 2 ^ (min (m : Int).toNat (IntKind.bits .u8))) = ((BitVec.ofNat 8 (2 ^ m)).toNat : Int) ∧ BitVec.ofNat 8 (2 ^ m) ≠ 0#8 := by
  match m, h with
  | 0, _ => decide
  | 1, _ => decide
  | 2, _ => decide
  | 3, _ => decide
  | 4, _ => decide
  | 5, _ => decide
  | 6, _ => decide
  | 7, _ => decide
theorem frameBits_walk (W : World) (A : Option Addr) (c : Nat) (b : List UInt8) (hbc : b.length ≤ c) (hb : b.length ≤ big) (hA : Ty.byte.Row W (old W) A b) (at_ : Int) (hat : inK .u16 at_) (bit : Int) (hbit : inK .u8 bit) :
    Calls Try.prog 5 #[.slice A b.length c, .int .u16 at_, .int .u8 bit] W (fun en w' => ∃ v, en = .returned v ∧ v = .bool true ∧ Ext W w') := by
  obtain ⟨at_, rfl, ha⟩ := u16_of hat
  obtain ⟨bit, rfl⟩ := u8_of hbit
  have hbb := hb
  unfold big at hb
  have hfl := Frame.frame_length b
  obtain ⟨k, hk, hkm⟩ : ∃ k : Nat, k < 8 + b.length ∧ ((at_ : Nat) : Int).tmod ((8 + b.length : Nat) : Int) = (k : Int) := by
    refine ⟨at_ % (8 + b.length), Nat.mod_lt _ (by omega), ?_⟩
    rw [Int.tmod_eq_emod_of_nonneg (Int.natCast_nonneg _)]; simp
  obtain ⟨m, hm, hmm⟩ : ∃ m : Nat, m < 8 ∧ ((bit.toNat : Nat) : Int).tmod 8 = (m : Int) := by
    refine ⟨bit.toNat % 8, by omega, ?_⟩
    rw [Int.tmod_eq_emod_of_nonneg (Int.natCast_nonneg _)]; simp
  obtain ⟨hp1, hp2⟩ := bitOf hm
  generalize BitVec.ofNat 8 (2 ^ m) = p at hp1 hp2
  have hkf : k < (Frame.frame b).length := by omega
  obtain ⟨y, hy⟩ : ∃ y, UInt8.ofBitVec ((Frame.frame b)[k].toBitVec ^^^ p) = y := ⟨_, rfl⟩
  have hyn : ((Frame.frame b)[k].toBitVec ^^^ p).toNat = y.toNat := by rw [← hy]; rfl
  have hyne : y ≠ (Frame.frame b)[k] := by
    intro q
    apply hp2
    have h1 : y.toBitVec = (Frame.frame b)[k].toBitVec := by rw [q]
    rw [← hy] at h1
    have h2 := congrArg (fun x => (Frame.frame b)[k].toBitVec ^^^ x) h1
    simpa [← BitVec.xor_assoc] using h2
  have hsl : ((Frame.frame b).set k y).length = 8 + b.length := by rw [List.length_set, hfl]
  have hnle := Frame.next_le ((Frame.frame b).set k y)
  refine calls' (n := 71) (rs := #[.tmp 6]) (l := [.slice A b.length c, .int .u16 at_, .int .u8 bit.toNat]) Try.func5 rfl rfl rfl rfl rfl ?_
  refine W_seq ?_
  refine W_region ?_
  refine op rfl (r_assignV (v := .bool _) rfl) ?_
  refine WL_nil ?_
  refine W_seq ?_
  refine W_seq ?_
  refine W_region ?_
  refine op rfl (r_moveV (v := .slice _ _ _) rfl) ?_
  refine op rfl (r_len_slice rfl Try.underlying22) ?_
  refine op rfl (r_gtr rfl rfl) ?_
  refine WL_nil ?_
  refine W_ifp rfl (fun ht14 => ?_) (fun ht14 => ?_)
  · refine W_seq ?_
    refine W_region ?_
    refine opCv rfl (r_call Try.func8 Try.nm8 rfl) (known_spec _) ?_
    rintro v w2 ⟨rfl, hE⟩
    refine op rfl (r_assignV (v := .bool _) rfl) ?_
    refine WL_nil ?_
    refine W_ret (finX_ret ?_)
    refine fin1 ?_
    exact ⟨_, rfl, rfl, hE⟩
  · refine W_skip ?_
    refine W_seq ?_
    refine W_region ?_
    have hee : Frame.encode b = Frame.frame b := by unfold Frame.encode; rw [if_pos (by omega)]
    have her : Frame.errOf b = 0 := by unfold Frame.errOf; rw [if_pos (by omega)]
    refine op rfl (r_moveV (v := .slice _ _ _) rfl) ?_
    refine opCv rfl (r_call Try.func17 Try.nm17 rfl) (encode_spec A c b W hbc hbb hA) ?_
    rintro v w3 ⟨u, rfl, E3, O3⟩
    rw [hee] at O3
    rw [her]
    obtain ⟨gg, cap, cc, rfl, hBg, hB, hcap, hcs, hcc⟩ := O3.scalar (by intro q; have := congrArg List.length q; rw [hfl] at this; simp at this)
    rw [hfl] at hcap ⊢
    refine op rfl (r_moveV (v := .tuple #[.slice (some ⟨gg, 0, none⟩) (8 + b.length) cap, .int .i64 0]) rfl) ?_
    refine op rfl (r_extract (vs := [.slice (some ⟨gg, 0, none⟩) (8 + b.length) cap, .int .i64 0]) rfl rfl) ?_
    refine op rfl (r_extract (vs := [.slice (some ⟨gg, 0, none⟩) (8 + b.length) cap, .int .i64 0]) rfl rfl) ?_
    refine op rfl (r_assignV (v := .slice (some ⟨gg, 0, none⟩) (8 + b.length) cap) rfl) ?_
    refine op rfl (r_assignV (v := .int .i64 0) rfl) ?_
    refine WL_nil ?_
    refine W_seq ?_
    refine W_seq ?_
    refine W_region ?_
    refine op rfl (r_moveV (v := .int .i64 0) rfl) ?_
    refine op rfl (r_neq rfl rfl) ?_
    refine op_false rfl (r_moveV (v := .bool (decide _)) rfl) (by decide) ?_
    refine opG_yes rfl rfl rfl rfl rfl (r_moveV (v := .slice (some ⟨gg, 0, none⟩) (8 + b.length) cap) rfl) ?_
    refine opG_yes rfl rfl rfl rfl rfl (r_len_slice rfl Try.underlying22) ?_
    refine opG_yes rfl rfl rfl rfl rfl (r_moveV (v := .slice _ _ _) rfl) ?_
    refine opG_yes rfl rfl rfl rfl rfl (r_len_slice rfl Try.underlying22) ?_
    refine opG_yes rfl rfl rfl rfl rfl (r_add' (r := ((8 + b.length : Nat) : Int)) rfl rfl (by rw [wrap_i64 (by omega) (by omega)]; omega)) ?_
    refine opG_yes rfl rfl rfl rfl rfl (r_neq rfl rfl) ?_
    refine op rfl (r_pickFV (v := .bool _) rfl rfl) ?_
    refine WL_nil ?_
    refine W_ifp rfl (fun ht30 => ?_) (fun ht30 => ?_)
    · exact absurd rfl ht30
    · refine W_skip ?_
      refine W_seq ?_
      refine W_region ?_
      refine op rfl (r_moveV (v := .int _ _) rfl) ?_
      refine op rfl (r_conv' rfl Try.underlying32 Try.underlying3 (wrap_i64 (by omega) (by omega))) ?_
      refine op rfl (r_moveV (v := .slice (some ⟨gg, 0, none⟩) (8 + b.length) cap) rfl) ?_
      refine op rfl (r_len_slice rfl Try.underlying22) ?_
      refine op rfl (r_rem' rfl rfl (by omega) hkm) ?_
      refine op rfl (r_assignV (v := .int _ _) rfl) ?_
      refine WL_nil ?_
      refine W_seq ?_
      refine W_region ?_
      refine op rfl (r_moveV (v := .slice (some ⟨gg, 0, none⟩) (8 + b.length) cap) rfl) ?_
      refine op rfl (r_moveV (v := .int _ _) rfl) ?_
      refine op rfl (r_moveV (v := .slice (some ⟨gg, 0, none⟩) (8 + b.length) cap) rfl) ?_
      refine op rfl (r_moveV (v := .int _ _) rfl) ?_
      refine op rfl (r_indexAddr0 rfl rfl Try.underlying22 Try.sz5 (by omega) (by omega)) ?_
      refine op rfl (r_load (v := .int .u8 (Frame.frame b)[k].toNat) rfl Try.underlying5 rfl (hB.cell (hcc k hkf))) ?_
      refine op rfl (r_moveV (v := .int _ _) rfl) ?_
      refine op rfl (r_rem' rfl rfl (by decide) hmm) ?_
      refine op (v := .int .u8 (p.toNat : Int)) rfl ((r_shl rfl rfl (Int.natCast_nonneg _)).trans (by rw [hp1])) ?_
      refine op rfl (r_xor8 (a := (Frame.frame b)[k].toBitVec) (b := p) rfl rfl) ?_
      refine op rfl (r_indexAddr0 rfl rfl Try.underlying22 Try.sz5 (by omega) (by omega)) ?_
      refine op_store (v := .int .u8 ((Frame.frame b)[k].toBitVec ^^^ p).toNat) rfl rfl rfl Try.sz5 hB (by rw [hcs]; omega) ?_
      intro w7 C7 B7
      rw [hyn] at B7
      have X7 : Ext W w7 := E3.chg C7 hBg
      have hR7 : Bytes w7 (some ⟨gg, 0, none⟩) ((Frame.frame b).set k y) := Blk.row B7 (Blk.lt B7) fun q hq => ⟨_, ⟨rfl, trivial⟩, fun j hj => by
        simp only [Ty.byte, Ty.scalar] at hj ⊢
        obtain rfl : j = 0 := by omega
        have hq' : q < (Frame.frame b).length := by rw [hsl] at hq; omega
        simp only [Nat.mul_one, Nat.add_zero, List.getElem?_cons_zero, Array.getElem?_setIfInBounds]
        by_cases hkq : (k : Int).toNat = q
        · obtain rfl : k = q := by omega
          rw [if_pos hkq, if_pos (by rw [hcs]; omega), List.getElem_set_self]
        · rw [if_neg hkq, List.getElem_set_ne (by omega), hcc q hq']⟩
      have hnx := next_spec (some ⟨gg, 0, none⟩) cap ((Frame.frame b).set k y) w7 (by omega) (bigs _ (by omega)) hR7
      rw [hsl] at hnx
      refine WL_nil ?_
      refine W_seq ?_
      refine W_region ?_
      refine op rfl (r_moveV (v := .slice (some ⟨gg, 0, none⟩) (8 + b.length) cap) rfl) ?_
      refine opCv rfl (r_call Try.func9 Try.nm9 rfl) (hnx) ?_
      rintro v w8 ⟨u, rfl, E8, O8⟩
      obtain ⟨A8, c8, rfl, hc8, hR8⟩ := own_frow O8
      refine op rfl (r_moveV (v := .tuple #[.slice A8 (Frame.next ((Frame.frame b).set k y)).1.length c8, .int .i64 (Frame.next ((Frame.frame b).set k y)).2]) rfl) ?_
      refine op rfl (r_extract (vs := [.slice A8 (Frame.next ((Frame.frame b).set k y)).1.length c8, .int .i64 (Frame.next ((Frame.frame b).set k y)).2]) rfl rfl) ?_
      refine op rfl (r_extract (vs := [.slice A8 (Frame.next ((Frame.frame b).set k y)).1.length c8, .int .i64 (Frame.next ((Frame.frame b).set k y)).2]) rfl rfl) ?_
      refine op rfl (r_assignV (v := .slice A8 (Frame.next ((Frame.frame b).set k y)).1.length c8) rfl) ?_
      refine op rfl (r_assignV (v := .int .i64 (Frame.next ((Frame.frame b).set k y)).2) rfl) ?_
      refine WL_nil ?_
      refine W_seq ?_
      refine W_seq ?_
      refine W_region ?_
      refine op rfl (r_moveV (v := .int _ _) rfl) ?_
      refine op rfl (r_geq rfl rfl) ?_
      refine WL_nil ?_
      refine W_ifp rfl (fun ht53 => ?_) (fun ht53 => ?_)
      · have hz := Frame.next_flip_high b k y (by omega) (by omega) hkf hyne
        refine W_seq ?_
        refine W_region ?_
        refine op rfl (r_moveV (v := .int .i64 (Frame.next ((Frame.frame b).set k y)).2) rfl) ?_
        refine op rfl (r_eql rfl rfl) ?_
        refine op_true rfl (r_moveV (v := .bool (decide _)) rfl) (by rw [hz]; rfl) ?_
        refine opG_yes rfl rfl rfl rfl rfl (r_moveV (v := .slice A8 (Frame.next ((Frame.frame b).set k y)).1.length c8) rfl) ?_
        refine opG_yes rfl rfl rfl rfl rfl (r_len_slice rfl Try.underlying22) ?_
        refine opG_yes rfl rfl rfl rfl rfl (r_eql rfl rfl) ?_
        refine op rfl (r_pickTV (v := .bool _) rfl rfl) ?_
        refine op_true rfl (r_moveV (v := .bool (decide _)) rfl) (by rw [hz]; rfl) ?_
        refine opGCv_yes rfl rfl rfl rfl rfl (r_call Try.func8 Try.nm8 rfl) (known_spec _) ?_
        rintro v w10 ⟨rfl, E10⟩
        refine op rfl (r_pickTV (v := .bool _) rfl rfl) ?_
        refine op rfl (r_assignV (v := .bool _) rfl) ?_
        refine WL_nil ?_
        refine W_ret (finX_ret ?_)
        refine fin1 ?_
        exact ⟨_, rfl, rfl, (X7.trans E8).trans E10⟩
      · have hz := Frame.next_flip_low b k y (by omega) (by omega) hkf hyne
        refine W_skip ?_
        refine W_seq ?_
        refine W_region ?_
        refine op rfl (r_moveV (v := .int .i64 (Frame.next ((Frame.frame b).set k y)).2) rfl) ?_
        refine op rfl (r_moveV (v := .slice (some ⟨gg, 0, none⟩) (8 + b.length) cap) rfl) ?_
        refine op rfl (r_len_slice rfl Try.underlying22) ?_
        refine op rfl (r_neq rfl rfl) ?_
        refine op_true rfl (r_moveV (v := .bool (decide _)) rfl) (by omega) ?_
        refine opGCv_yes rfl rfl rfl rfl rfl (r_call Try.func8 Try.nm8 rfl) (known_spec _) ?_
        rintro v w11 ⟨rfl, E11⟩
        refine op rfl (r_pickTV (v := .bool _) rfl rfl) ?_
        refine op rfl (r_assignV (v := .bool _) rfl) ?_
        refine WL_nil ?_
        refine W_ret (finX_ret ?_)
        refine fin1 ?_
        exact ⟨_, rfl, rfl, (X7.trans E8).trans E11⟩
end Go.Proofs.Ytgclnpafkjfmhaa
