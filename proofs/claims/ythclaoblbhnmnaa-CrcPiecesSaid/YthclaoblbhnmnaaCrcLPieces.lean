/-
  The walk of a law of chapter 04, but for its row.
-/
import Derived.Test.YthclaoblbhnmnaaFacts
import Derived.Test.YthclaoblbhnmnaaSlice
import Derived.Test.YthclaoblbhnmnaaCrcL
namespace Go.Proofs.Ythclaoblbhnmnaa
open Go Go.Eng Go.RowKit Go.Proofs
set_option linter.unusedVariables false

theorem crcPieces_walk (W : World) (n : Int) (hn : inK .u32 n) (A : Option Addr) (c : Nat) (l : List UInt8) (hlc : l.length ≤ c) (hl : l.length ≤ big) (hA : Ty.byte.Row W (old W) A l) (at_ : Int) (hat : inK .u16 at_) :
    Calls Try.prog 4 #[.int .u32 n, .slice A l.length c, .int .u16 at_] W (fun en w' => ∃ v, en = .returned v ∧ v = .bool true ∧ Ext W w') := by
  obtain ⟨n, rfl⟩ := u32_of hn
  obtain ⟨at_, rfl, ha⟩ := u16_of hat
  have hlb := hl
  unfold big at hl
  have hk0 : at_ % (l.length + 1) ≤ l.length := Nat.le_of_lt_succ (Nat.mod_lt _ (Nat.succ_pos _))
  have hkm : ((at_ : Nat) : Int).tmod ((l.length : Int) + 1) = ((at_ % (l.length + 1) : Nat) : Int) := by
    rw [Int.tmod_eq_emod_of_nonneg (Int.natCast_nonneg _)]; simp
  generalize at_ % (l.length + 1) = k at hk0 hkm
  have hlt : l.take k ++ l.drop k = l := List.take_append_drop k l
  have ht : (l.take k).length = k := by simp; omega
  have hd : (l.drop k).length = l.length - k := by simp
  refine calls' (n := 54) (rs := #[.tmp 6]) (l := [.int .u32 n.toNat, .slice A l.length c, .int .u16 at_]) Try.func4 rfl rfl rfl rfl ?_
  refine W_seq ?_
  refine W_region ?_
  refine op rfl (r_assignV (v := .bool _) rfl) ?_
  refine WL_nil ?_
  refine W_seq ?_
  refine W_seq ?_
  refine W_region ?_
  refine op rfl (r_moveV (v := .slice _ _ _) rfl) ?_
  refine op rfl (r_len_slice rfl Try.underlying24) ?_
  refine op rfl (r_gtr rfl rfl) ?_
  refine WL_nil ?_
  refine W_ifp rfl (fun ht10 => ?_) (fun ht10 => ?_)
  · refine W_seq ?_
    refine W_region ?_
    refine opCv rfl (r_call Try.func9 Try.nm9 rfl) (known_spec _) ?_
    rintro v w2 ⟨rfl, hE⟩
    refine op rfl (r_assignV (v := .bool _) rfl) ?_
    refine WL_nil ?_
    refine W_ret (finX_ret ?_)
    refine fin1 ?_
    exact ⟨_, rfl, rfl, hE⟩
  · refine W_skip ?_
    refine W_seq ?_
    refine W_region ?_
    refine op rfl (r_moveV (v := .int _ _) rfl) ?_
    refine op rfl (r_conv' rfl Try.underlying31 Try.underlying3 (wrap_i64 (by omega) (by omega))) ?_
    refine op rfl (r_moveV (v := .slice _ _ _) rfl) ?_
    refine op rfl (r_len_slice rfl Try.underlying24) ?_
    refine op rfl (r_add' rfl rfl (wrap_i64 (by omega) (by omega))) ?_
    refine op rfl (r_rem' rfl rfl (by omega) hkm) ?_
    refine op rfl (r_assignV (v := .int _ _) rfl) ?_
    refine WL_nil ?_
    refine W_seq ?_
    refine W_drawE Try.wd rfl ?_
    intro wd4 hS
    refine A_take (i := 0) rfl (by kernel_rfl) (by kernel_rfl) (by kernel_rfl) rfl hS (fun _ hw => r_moveV (v := .int _ _) rfl) ?_
    refine A_take (i := 1) rfl (by kernel_rfl) (by kernel_rfl) (by kernel_rfl) rfl hS (fun _ hw => r_moveV (v := .slice _ _ _) rfl) ?_
    refine A_take (i := 2) rfl (by kernel_rfl) (by kernel_rfl) (by kernel_rfl) rfl hS (fun _ hw => r_moveV (v := .int _ _) rfl) ?_
    refine A_take (i := 3) rfl (by kernel_rfl) (by kernel_rfl) (by kernel_rfl) rfl hS (fun _ hw => r_sliceHi rfl rfl Try.underlying24 Try.sz5 (by omega)) ?_
    refine A_take (i := 5) rfl (by kernel_rfl) (by kernel_rfl) (by kernel_rfl) rfl hS (fun _ hw => r_moveV (v := .slice _ _ _) rfl) ?_
    refine A_take (i := 6) rfl (by kernel_rfl) (by kernel_rfl) (by kernel_rfl) rfl hS (fun _ hw => r_moveV (v := .int _ _) rfl) ?_
    refine A_take (i := 7) rfl (by kernel_rfl) (by kernel_rfl) (by kernel_rfl) rfl hS (fun _ hw => r_sliceLo rfl rfl Try.underlying24 Try.sz5 (by omega)) ?_
    refine A_take (i := 9) rfl (by kernel_rfl) (by kernel_rfl) (by kernel_rfl) rfl hS (fun _ hw => r_moveV (v := .int _ _) rfl) ?_
    refine A_take (i := 10) rfl (by kernel_rfl) (by kernel_rfl) (by kernel_rfl) rfl hS (fun _ hw => r_moveV (v := .slice _ _ _) rfl) ?_
    refine A_ready1 (i := 4) (by kernel_rfl) ?_
    refine O_call rfl rfl (r_call Try.func10 Try.nm10 rfl) (ht ▸ more_spec n A c (l.take k) _ (by rw [ht]; exact Nat.le_trans hk0 hlb) ((hA.ext hS).take k)) ?_
    rintro v w2 ⟨rfl, hE⟩
    replace hS := hS.trans hE
    refine ⟨hS, ?_⟩
    refine A_ready1 (i := 8) (by kernel_rfl) ?_
    refine O_call rfl rfl (r_call Try.func10 Try.nm10 rfl) (hd ▸ more_spec _ _ (c - k) (l.drop k) _ (by rw [hd]; exact Nat.le_trans (Nat.sub_le _ _) hlb) ((hA.ext hS).drop hlc)) ?_
    rintro v w3 ⟨rfl, hE⟩
    replace hS := hS.trans hE
    refine ⟨hS, ?_⟩
    refine A_ready1 (i := 11) (by kernel_rfl) ?_
    refine O_call rfl rfl (r_call Try.func10 Try.nm10 rfl) (more_spec n A c l _ hlb (hA.ext hS)) ?_
    rintro v w4 ⟨rfl, hE⟩
    replace hS := hS.trans hE
    refine ⟨hS, ?_⟩
    refine A_take (i := 12) rfl (by kernel_rfl) (by kernel_rfl) (by kernel_rfl) rfl hS (fun _ hw => r_eql rfl rfl) ?_
    refine A_true (i := 13) rfl (by kernel_rfl) (by kernel_rfl) (by kernel_rfl) rfl hS (fun _ _ => r_moveV (v := .bool (decide _)) rfl) (by rw [← Crc.more_append, hlt]) ?_
    refine A_takeG (i := 14) rfl (by kernel_rfl) (by kernel_rfl) (by kernel_rfl) rfl hS rfl rfl rfl rfl (fun _ hw => r_moveV (v := .int _ _) rfl) ?_
    refine A_takeG (i := 16) rfl (by kernel_rfl) (by kernel_rfl) (by kernel_rfl) rfl hS rfl rfl rfl rfl (fun _ hw => r_moveV (v := .int _ _) rfl) ?_
    refine A_ready1 (i := 15) (by kernel_rfl) ?_
    refine O_callG rfl rfl rfl rfl rfl rfl (r_call Try.func10 Try.nm10 rfl) (more_spec n none 0 [] _ (Nat.zero_le _) Ty.Row.nil) ?_
    rintro v w5 ⟨rfl, hE⟩
    replace hS := hS.trans hE
    refine ⟨hS, ?_⟩
    refine A_takeG (i := 17) rfl (by kernel_rfl) (by kernel_rfl) (by kernel_rfl) rfl hS rfl rfl rfl rfl (fun _ hw => r_eql rfl rfl) ?_
    refine A_take (i := 18) rfl (by kernel_rfl) (by kernel_rfl) (by kernel_rfl) rfl hS (fun _ hw => r_pickTV (v := .bool _) rfl rfl) ?_
    refine A_true (i := 19) rfl (by kernel_rfl) (by kernel_rfl) (by kernel_rfl) rfl hS (fun _ _ => r_moveV (v := .bool (decide _)) rfl) (by rw [Crc.more_nil]) ?_
    refine A_takeG (i := 20) rfl (by kernel_rfl) (by kernel_rfl) (by kernel_rfl) rfl hS rfl rfl rfl rfl (fun _ hw => r_moveV (v := .slice _ _ _) rfl) ?_
    refine A_takeG (i := 21) rfl (by kernel_rfl) (by kernel_rfl) (by kernel_rfl) rfl hS rfl rfl rfl rfl (fun _ hw => r_moveV (v := .int _ _) rfl) ?_
    refine A_takeG (i := 22) rfl (by kernel_rfl) (by kernel_rfl) (by kernel_rfl) rfl hS rfl rfl rfl rfl (fun _ hw => r_sliceHi rfl rfl Try.underlying24 Try.sz5 (by omega)) ?_
    refine A_takeG (i := 23) rfl (by kernel_rfl) (by kernel_rfl) (by kernel_rfl) rfl hS rfl rfl rfl rfl (fun _ hw => r_moveV (v := .slice _ _ _) rfl) ?_
    refine A_takeG (i := 24) rfl (by kernel_rfl) (by kernel_rfl) (by kernel_rfl) rfl hS rfl rfl rfl rfl (fun _ hw => r_moveV (v := .int _ _) rfl) ?_
    refine A_takeG (i := 25) rfl (by kernel_rfl) (by kernel_rfl) (by kernel_rfl) rfl hS rfl rfl rfl rfl (fun _ hw => r_sliceLo rfl rfl Try.underlying24 Try.sz5 (by omega)) ?_
    refine A_takeG (i := 28) rfl (by kernel_rfl) (by kernel_rfl) (by kernel_rfl) rfl hS rfl rfl rfl rfl (fun _ hw => r_moveV (v := .slice _ _ _) rfl) ?_
    refine A_ready2 (i := 26) (j := 29) (by kernel_rfl) ?_ ?_
    · refine O_newSG rfl rfl rfl rfl rfl rfl (r_buildSlice (vs := [.slice _ _ _, .slice _ _ _]) Try.underlying23 Try.sz24 Try.zero24 rfl rfl rfl) ?_
      intro w4_26 b4_26 E4_26 B4_26 L4_26
      replace hS := hS.trans E4_26
      refine ⟨hS, ?_⟩
      refine A_ready2 (i := 27) (j := 29) (by kernel_rfl) ?_ ?_
      · refine O_callG rfl rfl rfl rfl rfl rfl (r_call Try.func12 Try.nm12 rfl) (sum_spec _ 2 [l.take k, l.drop k] _ (by show 2 ≤ 140737488355328; omega) (bytesL_two (c := c) (c' := c - k) (by rw [ht, hd]; exact B4_26) (by omega) (by rw [ht]; exact Nat.le_trans hk0 hlb) ((hA.ext hS).take k) (by omega) (by rw [hd]; exact Nat.le_trans (Nat.sub_le _ _) hlb) ((hA.ext hS).drop hlc))) ?_
        rintro v w6 ⟨rfl, hE⟩
        replace hS := hS.trans hE
        refine ⟨hS, ?_⟩
        replace B4_26 := Blk.ext B4_26 hE
        refine A_ready1 (i := 29) (by kernel_rfl) ?_
        refine O_newSG rfl rfl rfl rfl rfl rfl (r_buildSlice (vs := [.slice _ _ _]) Try.underlying23 Try.sz24 Try.zero24 rfl rfl rfl) ?_
        intro w4_29 b4_29 E4_29 B4_29 L4_29
        replace hS := hS.trans E4_29
        refine ⟨hS, ?_⟩
        replace B4_26 := Blk.ext B4_26 E4_29
        refine A_ready1 (i := 30) (by kernel_rfl) ?_
        refine O_callG rfl rfl rfl rfl rfl rfl (r_call Try.func12 Try.nm12 rfl) (sum_spec _ 1 [l] _ (by show 1 ≤ 140737488355328; omega) (bytesL_one B4_29 hlc hlb (hA.ext hS))) ?_
        rintro v w7 ⟨rfl, hE⟩
        replace hS := hS.trans hE
        refine ⟨hS, ?_⟩
        replace B4_26 := Blk.ext B4_26 hE
        replace B4_29 := Blk.ext B4_29 hE
        refine A_takeG (i := 31) rfl (by kernel_rfl) (by kernel_rfl) (by kernel_rfl) rfl hS rfl rfl rfl rfl (fun _ hw => r_eql rfl rfl) ?_
        refine A_take (i := 32) rfl (by kernel_rfl) (by kernel_rfl) (by kernel_rfl) rfl hS (fun _ hw => r_pickTV (v := .bool _) rfl rfl) ?_
        refine A_true (i := 33) rfl (by kernel_rfl) (by kernel_rfl) (by kernel_rfl) rfl hS (fun _ _ => r_moveV (v := .bool (decide _)) rfl) (by rw [Crc.sum_two, hlt, Crc.sum_one]) ?_
        refine A_ready1 (i := 34) (by kernel_rfl) ?_
        refine O_callG rfl rfl rfl rfl rfl rfl (r_call Try.func9 Try.nm9 rfl) (known_spec _) ?_
        rintro v w8 ⟨rfl, hE⟩
        replace hS := hS.trans hE
        refine ⟨hS, ?_⟩
        replace B4_26 := Blk.ext B4_26 hE
        replace B4_29 := Blk.ext B4_29 hE
        refine A_take (i := 35) rfl (by kernel_rfl) (by kernel_rfl) (by kernel_rfl) rfl hS (fun _ hw => r_pickTV (v := .bool _) rfl rfl) ?_
        refine A_take (i := 36) rfl (by kernel_rfl) (by kernel_rfl) (by kernel_rfl) rfl hS (fun _ hw => r_assignV (v := .bool _) rfl) ?_
        refine A_done (by kernel_rfl) ?_
        refine W_ret (finX_ret ?_)
        refine fin1 ?_
        exact ⟨_, rfl, rfl, hS⟩
      · refine O_newSG rfl rfl rfl rfl rfl rfl (r_buildSlice (vs := [.slice _ _ _]) Try.underlying23 Try.sz24 Try.zero24 rfl rfl rfl) ?_
        intro w4_29 b4_29 E4_29 B4_29 L4_29
        replace hS := hS.trans E4_29
        refine ⟨hS, ?_⟩
        replace B4_26 := Blk.ext B4_26 E4_29
        refine A_ready1 (i := 27) (by kernel_rfl) ?_
        refine O_callG rfl rfl rfl rfl rfl rfl (r_call Try.func12 Try.nm12 rfl) (sum_spec _ 2 [l.take k, l.drop k] _ (by show 2 ≤ 140737488355328; omega) (bytesL_two (c := c) (c' := c - k) (by rw [ht, hd]; exact B4_26) (by omega) (by rw [ht]; exact Nat.le_trans hk0 hlb) ((hA.ext hS).take k) (by omega) (by rw [hd]; exact Nat.le_trans (Nat.sub_le _ _) hlb) ((hA.ext hS).drop hlc))) ?_
        rintro v w6 ⟨rfl, hE⟩
        replace hS := hS.trans hE
        refine ⟨hS, ?_⟩
        replace B4_26 := Blk.ext B4_26 hE
        replace B4_29 := Blk.ext B4_29 hE
        refine A_ready1 (i := 30) (by kernel_rfl) ?_
        refine O_callG rfl rfl rfl rfl rfl rfl (r_call Try.func12 Try.nm12 rfl) (sum_spec _ 1 [l] _ (by show 1 ≤ 140737488355328; omega) (bytesL_one B4_29 hlc hlb (hA.ext hS))) ?_
        rintro v w7 ⟨rfl, hE⟩
        replace hS := hS.trans hE
        refine ⟨hS, ?_⟩
        replace B4_26 := Blk.ext B4_26 hE
        replace B4_29 := Blk.ext B4_29 hE
        refine A_takeG (i := 31) rfl (by kernel_rfl) (by kernel_rfl) (by kernel_rfl) rfl hS rfl rfl rfl rfl (fun _ hw => r_eql rfl rfl) ?_
        refine A_take (i := 32) rfl (by kernel_rfl) (by kernel_rfl) (by kernel_rfl) rfl hS (fun _ hw => r_pickTV (v := .bool _) rfl rfl) ?_
        refine A_true (i := 33) rfl (by kernel_rfl) (by kernel_rfl) (by kernel_rfl) rfl hS (fun _ _ => r_moveV (v := .bool (decide _)) rfl) (by rw [Crc.sum_two, hlt, Crc.sum_one]) ?_
        refine A_ready1 (i := 34) (by kernel_rfl) ?_
        refine O_callG rfl rfl rfl rfl rfl rfl (r_call Try.func9 Try.nm9 rfl) (known_spec _) ?_
        rintro v w8 ⟨rfl, hE⟩
        replace hS := hS.trans hE
        refine ⟨hS, ?_⟩
        replace B4_26 := Blk.ext B4_26 hE
        replace B4_29 := Blk.ext B4_29 hE
        refine A_take (i := 35) rfl (by kernel_rfl) (by kernel_rfl) (by kernel_rfl) rfl hS (fun _ hw => r_pickTV (v := .bool _) rfl rfl) ?_
        refine A_take (i := 36) rfl (by kernel_rfl) (by kernel_rfl) (by kernel_rfl) rfl hS (fun _ hw => r_assignV (v := .bool _) rfl) ?_
        refine A_done (by kernel_rfl) ?_
        refine W_ret (finX_ret ?_)
        refine fin1 ?_
        exact ⟨_, rfl, rfl, hS⟩
    · refine O_newSG rfl rfl rfl rfl rfl rfl (r_buildSlice (vs := [.slice _ _ _]) Try.underlying23 Try.sz24 Try.zero24 rfl rfl rfl) ?_
      intro w4_29 b4_29 E4_29 B4_29 L4_29
      replace hS := hS.trans E4_29
      refine ⟨hS, ?_⟩
      refine A_ready1 (i := 26) (by kernel_rfl) ?_
      refine O_newSG rfl rfl rfl rfl rfl rfl (r_buildSlice (vs := [.slice _ _ _, .slice _ _ _]) Try.underlying23 Try.sz24 Try.zero24 rfl rfl rfl) ?_
      intro w4_26 b4_26 E4_26 B4_26 L4_26
      replace hS := hS.trans E4_26
      refine ⟨hS, ?_⟩
      replace B4_29 := Blk.ext B4_29 E4_26
      refine A_ready1 (i := 27) (by kernel_rfl) ?_
      refine O_callG rfl rfl rfl rfl rfl rfl (r_call Try.func12 Try.nm12 rfl) (sum_spec _ 2 [l.take k, l.drop k] _ (by show 2 ≤ 140737488355328; omega) (bytesL_two (c := c) (c' := c - k) (by rw [ht, hd]; exact B4_26) (by omega) (by rw [ht]; exact Nat.le_trans hk0 hlb) ((hA.ext hS).take k) (by omega) (by rw [hd]; exact Nat.le_trans (Nat.sub_le _ _) hlb) ((hA.ext hS).drop hlc))) ?_
      rintro v w6 ⟨rfl, hE⟩
      replace hS := hS.trans hE
      refine ⟨hS, ?_⟩
      replace B4_29 := Blk.ext B4_29 hE
      replace B4_26 := Blk.ext B4_26 hE
      refine A_ready1 (i := 30) (by kernel_rfl) ?_
      refine O_callG rfl rfl rfl rfl rfl rfl (r_call Try.func12 Try.nm12 rfl) (sum_spec _ 1 [l] _ (by show 1 ≤ 140737488355328; omega) (bytesL_one B4_29 hlc hlb (hA.ext hS))) ?_
      rintro v w7 ⟨rfl, hE⟩
      replace hS := hS.trans hE
      refine ⟨hS, ?_⟩
      replace B4_29 := Blk.ext B4_29 hE
      replace B4_26 := Blk.ext B4_26 hE
      refine A_takeG (i := 31) rfl (by kernel_rfl) (by kernel_rfl) (by kernel_rfl) rfl hS rfl rfl rfl rfl (fun _ hw => r_eql rfl rfl) ?_
      refine A_take (i := 32) rfl (by kernel_rfl) (by kernel_rfl) (by kernel_rfl) rfl hS (fun _ hw => r_pickTV (v := .bool _) rfl rfl) ?_
      refine A_true (i := 33) rfl (by kernel_rfl) (by kernel_rfl) (by kernel_rfl) rfl hS (fun _ _ => r_moveV (v := .bool (decide _)) rfl) (by rw [Crc.sum_two, hlt, Crc.sum_one]) ?_
      refine A_ready1 (i := 34) (by kernel_rfl) ?_
      refine O_callG rfl rfl rfl rfl rfl rfl (r_call Try.func9 Try.nm9 rfl) (known_spec _) ?_
      rintro v w8 ⟨rfl, hE⟩
      replace hS := hS.trans hE
      refine ⟨hS, ?_⟩
      replace B4_29 := Blk.ext B4_29 hE
      replace B4_26 := Blk.ext B4_26 hE
      refine A_take (i := 35) rfl (by kernel_rfl) (by kernel_rfl) (by kernel_rfl) rfl hS (fun _ hw => r_pickTV (v := .bool _) rfl rfl) ?_
      refine A_take (i := 36) rfl (by kernel_rfl) (by kernel_rfl) (by kernel_rfl) rfl hS (fun _ hw => r_assignV (v := .bool _) rfl) ?_
      refine A_done (by kernel_rfl) ?_
      refine W_ret (finX_ret ?_)
      refine fin1 ?_
      exact ⟨_, rfl, rfl, hS⟩
end Go.Proofs.Ythclaoblbhnmnaa
