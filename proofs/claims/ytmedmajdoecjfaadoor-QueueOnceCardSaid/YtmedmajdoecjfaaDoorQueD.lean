/-
  What laws of queues do, one thing behind the other: did, and small.
  (facts that are wanted: Tryd.sz2 Tryd.zero2 Tryd.by2 Tryd.sz3 Tryd.zero3 Tryd.by3 Tryd.sz4 Tryd.zero4 Tryd.by4 Tryd.sz5 Tryd.zero5 Tryd.by5 Tryd.sz6 Tryd.zero6 Tryd.by6 Tryd.sz7 Tryd.zero7 Tryd.by7 Tryd.fld7_0 Tryd.fld7_1 Tryd.fld7_2 Tryd.fld7_3 Tryd.lay7 Tryd.sz8 Tryd.zero8 Tryd.by8 Tryd.fld8_0 Tryd.fld8_1 Tryd.fld8_2 Tryd.fld8_3 Tryd.lay8 Tryd.sz9 Tryd.zero9 Tryd.by9 Tryd.sz10 Tryd.zero10 Tryd.by10 Tryd.sz11 Tryd.zero11 Tryd.by11 Tryd.sz12 Tryd.zero12 Tryd.by12 Tryd.sz13 Tryd.zero13 Tryd.by13 Tryd.fld13_0 Tryd.fld13_1 Tryd.lay13 Tryd.sz14 Tryd.zero14 Tryd.by14 Tryd.fld14_0 Tryd.fld14_1 Tryd.lay14 Tryd.sz15 Tryd.zero15 Tryd.by15 Tryd.sz16 Tryd.zero16 Tryd.by16 Tryd.sz17 Tryd.zero17 Tryd.by17 Tryd.sz18 Tryd.zero18 Tryd.by18 Tryd.fld18_0 Tryd.lay18 Tryd.sz19 Tryd.zero19 Tryd.by19 Tryd.fld19_0 Tryd.lay19 Tryd.sz21 Tryd.zero21 Tryd.by21 Tryd.sz22 Tryd.zero22 Tryd.by22 Tryd.sz23 Tryd.zero23 Tryd.by23 Tryd.sz24 Tryd.zero24 Tryd.by24 Tryd.sz28 Tryd.zero28 Tryd.by28 Tryd.sz29 Tryd.zero29 Tryd.by29 Tryd.sz32 Tryd.zero32 Tryd.by32 Tryd.sz34 Tryd.zero34 Tryd.by34 Tryd.fld34_0 Tryd.fld34_1 Tryd.lay34 Tryd.sz35 Tryd.zero35 Tryd.by35 Tryd.fld35_0 Tryd.fld35_1 Tryd.lay35 Tryd.sz37 Tryd.zero37 Tryd.by37 Tryd.fld37_0 Tryd.fld37_1 Tryd.fld37_2 Tryd.lay37 Tryd.sz38 Tryd.zero38 Tryd.by38 Tryd.fld38_0 Tryd.fld38_1 Tryd.fld38_2 Tryd.lay38 Tryd.sz39 Tryd.zero39 Tryd.by39 Tryd.sz40 Tryd.zero40 Tryd.by40 Tryd.fld40_0 Tryd.fld40_1 Tryd.fld40_2 Tryd.lay40 Tryd.sz41 Tryd.zero41 Tryd.by41 Tryd.fld41_0 Tryd.fld41_1 Tryd.fld41_2 Tryd.lay41 Tryd.sz42 Tryd.zero42 Tryd.by42 Tryd.fld42_0 Tryd.fld42_1 Tryd.fld42_2 Tryd.fld42_3 Tryd.lay42 Tryd.sz43 Tryd.zero43 Tryd.by43 Tryd.fld43_0 Tryd.fld43_1 Tryd.fld43_2 Tryd.fld43_3 Tryd.lay43 Tryd.sz49 Tryd.zero49 Tryd.by49 Tryd.sz52 Tryd.zero52 Tryd.by52 Tryd.sz66 Tryd.zero66 Tryd.by66 Tryd.sz68 Tryd.zero68 Tryd.by68 Tryd.fld68_0 Tryd.fld68_1 Tryd.fld68_2 Tryd.layn68 Tryd.sz69 Tryd.zero69 Tryd.by69 Tryd.fld69_0 Tryd.fld69_1 Tryd.fld69_2 Tryd.layn69 Tryd.sz71 Tryd.zero71 Tryd.by71 Tryd.fld71_0 Tryd.fld71_1 Tryd.layn71 Tryd.sz72 Tryd.zero72 Tryd.by72 Tryd.fld72_0 Tryd.fld72_1 Tryd.layn72 Tryd.sz74 Tryd.zero74 Tryd.by74 Tryd.sz77 Tryd.zero77 Tryd.by77 Tryd.sz78 Tryd.zero78 Tryd.by78 Tryd.fld78_0 Tryd.fld78_1 Tryd.lay78 Tryd.sz79 Tryd.zero79 Tryd.by79 Tryd.fld79_0 Tryd.fld79_1 Tryd.lay79 Tryd.sz82 Tryd.zero82 Tryd.by82 Tryd.sz83 Tryd.zero83 Tryd.by83 Tryd.sz84 Tryd.zero84 Tryd.by84 Tryd.fld84_0 Tryd.fld84_1 Tryd.fld84_2 Tryd.fld84_3 Tryd.fld84_4 Tryd.layn84 Tryd.sz85 Tryd.zero85 Tryd.by85 Tryd.fld85_0 Tryd.fld85_1 Tryd.fld85_2 Tryd.fld85_3 Tryd.fld85_4 Tryd.layn85 Tryd.sz98 Tryd.zero98 Tryd.by98 Tryd.fld98_0 Tryd.lay98 Tryd.sz99 Tryd.zero99 Tryd.by99 Tryd.fld99_0 Tryd.lay99 Tryd.sz100 Tryd.zero100 Tryd.by100 Tryd.fld100_0 Tryd.fld100_1 Tryd.lay100 Tryd.sz101 Tryd.zero101 Tryd.by101 Tryd.fld101_0 Tryd.fld101_1 Tryd.lay101 Tryd.sz102 Tryd.zero102 Tryd.by102 Tryd.sz103 Tryd.zero103 Tryd.by103 Tryd.sz104 Tryd.zero104 Tryd.by104 Tryd.fld104_0 Tryd.fld104_1 Tryd.lay104 Tryd.sz105 Tryd.zero105 Tryd.by105 Tryd.fld105_0 Tryd.fld105_1 Tryd.lay105 Tryd.sz106 Tryd.zero106 Tryd.by106 Tryd.sz107 Tryd.zero107 Tryd.by107 Tryd.fld107_0 Tryd.lay107 Tryd.sz108 Tryd.zero108 Tryd.by108 Tryd.fld108_0 Tryd.lay108 Tryd.sz109 Tryd.zero109 Tryd.by109 Tryd.sz110 Tryd.zero110 Tryd.by110 Tryd.fld110_0 Tryd.lay110 Tryd.sz111 Tryd.zero111 Tryd.by111 Tryd.fld111_0 Tryd.lay111 Tryd.sz112 Tryd.zero112 Tryd.by112 Tryd.fld112_0 Tryd.fld112_1 Tryd.fld112_2 Tryd.fld112_3 Tryd.lay112 Tryd.sz113 Tryd.zero113 Tryd.by113 Tryd.fld113_0 Tryd.fld113_1 Tryd.fld113_2 Tryd.fld113_3 Tryd.lay113 Tryd.sz114 Tryd.zero114 Tryd.by114 Tryd.sz132 Tryd.zero132 Tryd.by132 Tryd.sz134 Tryd.zero134 Tryd.by134 Tryd.sz140 Tryd.zero140 Tryd.by140 Tryd.sz161 Tryd.zero161 Tryd.by161 Tryd.sz162 Tryd.zero162 Tryd.by162 Tryd.fld162_0 Tryd.fld162_1 Tryd.lay162 Tryd.sz163 Tryd.zero163 Tryd.by163 Tryd.fld163_0 Tryd.fld163_1 Tryd.lay163 Tryd.sz167 Tryd.zero167 Tryd.by167 Tryd.sz171 Tryd.zero171 Tryd.by171 Tryd.fld171_0 Tryd.fld171_1 Tryd.fld171_2 Tryd.fld171_3 Tryd.lay171 Tryd.sz172 Tryd.zero172 Tryd.by172 Tryd.fld172_0 Tryd.fld172_1 Tryd.fld172_2 Tryd.fld172_3 Tryd.lay172 Tryd.sz174 Tryd.zero174 Tryd.by174 Tryd.fld174_0 Tryd.layn174 Tryd.sz175 Tryd.zero175 Tryd.by175 Tryd.fld175_0 Tryd.layn175 Tryd.sz176 Tryd.zero176 Tryd.by176 Tryd.sz177 Tryd.zero177 Tryd.by177 Tryd.sz179 Tryd.zero179 Tryd.by179 Tryd.sz180 Tryd.zero180 Tryd.by180 Tryd.sz181 Tryd.zero181 Tryd.by181 Tryd.sz182 Tryd.zero182 Tryd.by182 Tryd.fld182_0 Tryd.fld182_1 Tryd.fld182_2 Tryd.fld182_3 Tryd.fld182_4 Tryd.fld182_5 Tryd.fld182_6 Tryd.fld182_7 Tryd.fld182_8 Tryd.fld182_9 Tryd.fld182_10 Tryd.lay182 Tryd.sz183 Tryd.zero183 Tryd.by183 Tryd.fld183_0 Tryd.fld183_1 Tryd.fld183_2 Tryd.fld183_3 Tryd.fld183_4 Tryd.fld183_5 Tryd.fld183_6 Tryd.fld183_7 Tryd.fld183_8 Tryd.fld183_9 Tryd.fld183_10 Tryd.lay183 Tryd.nm0 Tryd.nm1 Tryd.nm2 Tryd.nm3 Tryd.nm4 Tryd.nm5 Tryd.nm6 Tryd.nm7 Tryd.nm8 Tryd.nm9 Tryd.nm10 Tryd.nm11 Tryd.nm12 Tryd.nm13 Tryd.nm14 Tryd.nm15 Tryd.nm16 Tryd.nm17 Tryd.nm18 Tryd.nm19 Tryd.nm20 Tryd.nm21 Tryd.nm22 Tryd.nm23 Tryd.nm24 Tryd.nm25 Tryd.nm26 Tryd.nm27 Tryd.nm28 Tryd.nm29 Tryd.nm30 Tryd.nm31 Tryd.nm32 Tryd.nm33 Tryd.nm34 Tryd.nm35 Tryd.nm36 Tryd.nm37 Tryd.nm38 Tryd.nm39 Tryd.nm40 Tryd.nm41 Tryd.nm42 Tryd.nm43 Tryd.nm44 Tryd.nm45 Tryd.nm46 Tryd.nm47 Tryd.nm48 Tryd.nm49 Tryd.nm50 Tryd.nm51 Tryd.nm52 Tryd.nm53 Tryd.nm54 Tryd.nm55 Tryd.nm56 Tryd.nm57 Tryd.nm58 Tryd.nm59 Tryd.nm60 Tryd.nm61 Tryd.nm62 Tryd.nm63 Tryd.nm64 Tryd.nm65 Tryd.nm66 Tryd.nm67 Tryd.nm68 Tryd.nm69 Tryd.nm70 Tryd.nm71 Tryd.nm72 Tryd.nm73 Tryd.nm74 Tryd.nm75 Tryd.nm76 Tryd.nm77 Tryd.nm78 Tryd.nm79 Tryd.nm80 Tryd.nm81 Tryd.nm82 Tryd.nm83 Tryd.nm84 Tryd.nm85 Tryd.nm86 Tryd.nm87 Tryd.nm88 Tryd.nm89 Tryd.nm90 Tryd.nm91 Tryd.nm92 Tryd.nm93 Tryd.nm94 Tryd.nm95 Tryd.nm96 Tryd.nm97 Tryd.nm98 Tryd.nm99 Tryd.nm100 Tryd.nm101 Tryd.nm102 Tryd.nm103 Tryd.nm104 Tryd.nm105 Tryd.nm106 Tryd.nm107 Tryd.nm108 Tryd.nm109 Tryd.nm110 Tryd.nm111 Tryd.nm112 Tryd.nm113 Tryd.nm114 Tryd.nm115 Tryd.nm116 Tryd.nm117 Tryd.nm118 Tryd.nm119 Tryd.nm120 Tryd.nm121 Tryd.nm122 Tryd.nm123)
-/
import Derived.Test.YtmedmajdoecjfaaDoorFacts
import Derived.Test.YtmedmajdoecjfaaDoorQueH
import Derived.Test.YtmedmajdoecjfaaDoorLong
import Derived.Test.YtmedmajdoecjfaaDoorWide
import Derived.Test.YtmedmajdoecjfaaDoorOff
namespace Go.Proofs.YtmedmajdoecjfaaDoor
open Go Go.Eng Go.RowKit Go.Proofs
set_option linter.unusedVariables false
set_option linter.unusedSimpArgs false
set_option maxHeartbeats 1000000
set_option maxRecDepth 20000

/-- Something that is done. -/
structure Dq where
  k : Int
  r : Rq
def dqF (d : Dq) : Int × Int × Int × List Dl := (d.k, d.r.id, d.r.base, d.r.l)
def dqG (x : Int × Int × Int × List Dl) : Dq := ⟨x.1, ⟨x.2.1, x.2.2.1, x.2.2.2⟩⟩
abbrev doT : Ty Dq := ((Ty.int .i64).pair ((Ty.int .i64).pair ((Ty.int .i64).pair (dlT.sliceW 48)))).iso dqF
theorem dq_cells {w : World} {F : Nat → Prop} {d : Dq} {cs : List Value} (h : doT.R w F d cs) : ∃ A c, cs = [.int .i64 d.k, .int .i64 d.r.id, .int .i64 d.r.base, .slice A d.r.l.length c] ∧ inK .i64 d.k ∧ inK .i64 d.r.id ∧ inK .i64 d.r.base ∧ d.r.l.length ≤ c ∧ d.r.l.length * 48 ≤ 140737488355328 ∧ dlT.Row w F A d.r.l := by
  obtain ⟨c1, c2, rfl, ⟨rfl, h1⟩, c3, c4, rfl, ⟨rfl, h2⟩, c5, c6, rfl, ⟨rfl, h3⟩, ⟨A, c, rfl, h4, h5, h6⟩, h7⟩ := h
  exact ⟨A, c, rfl, h1, h2, h3, h4, h7, h6⟩
theorem do_at {A : Option Addr} {l : List Dq} {w : World} {G : Nat → Prop} (hrow : doT.Row w G A l) : ∀ i (h : i < l.length), ∃ g off Ai ci, A = some ⟨g, off, none⟩ ∧ inK .i64 l[i].k ∧ inK .i64 l[i].r.id ∧ inK .i64 l[i].r.base ∧ l[i].r.l.length ≤ ci ∧ l[i].r.l.length * 48 ≤ 140737488355328 ∧ dlT.Row w G Ai l[i].r.l ∧ (∀ j, j < 3 → w.cell? ⟨g, off + i * 4 + 1 + j, none⟩ = [Value.int .i64 l[i].r.id, .int .i64 l[i].r.base, .slice Ai l[i].r.l.length ci][j]?) ∧ ∀ j, j < 4 → w.cell? ⟨g, off + i * 4 + j, none⟩ = [Value.int .i64 l[i].k, .int .i64 l[i].r.id, .int .i64 l[i].r.base, .slice Ai l[i].r.l.length ci][j]? := fun i h => by
  obtain ⟨g, off, xs, hA, _, hx, hc⟩ := hrow.cells h
  obtain ⟨Ai, ci, rfl, h1, h2, h3, h4, h5, h6⟩ := dq_cells hx
  have hc' : ∀ j, j < 4 → w.cell? ⟨g, off + i * 4 + j, none⟩ = [Value.int .i64 l[i].k, .int .i64 l[i].r.id, .int .i64 l[i].r.base, .slice Ai l[i].r.l.length ci][j]? := hc
  exact ⟨g, off, Ai, ci, hA, h1, h2, h3, h4, h5, h6, fun j hj => by rw [Nat.add_assoc, hc' (1 + j) (by omega), Nat.add_comm 1 j]; rfl, hc'⟩
/-- What is told. -/
structure Td where
  e : Int
  a : An
  is : Bool
abbrev Td.vals (t : Td) : List Value := [.int .i64 t.e, .int .i64 t.a.id, .int .i64 t.a.kind, .int .i64 t.a.rev, .int .i64 t.a.e, .bool t.is]
abbrev no : An := ⟨0, 0, 0, 0⟩
noncomputable def didR (q : Qs) (d : Dq) : Qs × Td :=
  if d.k = 1 then ((submitR q d.r).1, ⟨(submitR q d.r).2, no, false⟩)
  else if d.k = 2 ∨ d.k = 3 then ((stepQ q (decide (d.k = 2))).1, ⟨0, (stepQ q (decide (d.k = 2))).2.1, (stepQ q (decide (d.k = 2))).2.2⟩)
  else if d.k = 4 then ({ q with H := (commitR q.H d.r.l).1 }, ⟨(commitR q.H d.r.l).2.2, no, false⟩)
  else (q, ⟨0, no, false⟩)
theorem did1 {q : Qs} {d : Dq} (h : d.k = 1) : didR q d = ((submitR q d.r).1, ⟨(submitR q d.r).2, no, false⟩) := by unfold didR; rw [if_pos h]
theorem did2 {q : Qs} {d : Dq} (h : d.k = 2 ∨ d.k = 3) : didR q d = ((stepQ q (decide (d.k = 2))).1, ⟨0, (stepQ q (decide (d.k = 2))).2.1, (stepQ q (decide (d.k = 2))).2.2⟩) := by unfold didR; rw [if_neg (by omega), if_pos h]
theorem did4 {q : Qs} {d : Dq} (h : d.k = 4) : didR q d = ({ q with H := (commitR q.H d.r.l).1 }, ⟨(commitR q.H d.r.l).2.2, no, false⟩) := by unfold didR; rw [if_neg (by omega), if_neg (by omega), if_pos h]
theorem did0 {q : Qs} {d : Dq} (h1 : ¬ d.k = 1) (h2 : ¬ (d.k = 2 ∨ d.k = 3)) (h4 : ¬ d.k = 4) : didR q d = (q, ⟨0, no, false⟩) := by unfold didR; rw [if_neg h1, if_neg h2, if_neg h4]
theorem blk_rq {w : World} {b : Nat} {x0 x1 x2 x3 : Value} {t : TypeId} (B : Blk w b #[x0, x1, x2, x3] t) : ∀ j, j < 3 → w.cell? ⟨b, 1 + j, none⟩ = [x1, x2, x3][j]? := fun j hj => by
  rcases j with _ | _ | _ | j
  · exact Blk.cell B rfl
  · exact Blk.cell B rfl
  · exact Blk.cell B rfl
  · omega
theorem did_end {w0 w wa wb wc : World} {B Y : Nat → Prop} {pq ph : Nat} {q : Qs} (he0 : Ext w0 w) (hb : ∀ b, B b → b < w.heap.size) (hX : Ext w wa) (hQ : QG w0 (fun b => B b ∨ since w wa b) pq ph wb q) (hK : Kp w0 (fun b => B b ∨ since w wa b) wa wb) (hM : Mv Y wb wc) (hY : ∀ b, Y b → w.heap.size ≤ b ∧ (b < wb.heap.size → b < wa.heap.size)) : QG w0 B pq ph wc q ∧ Kp w0 B w wc := by
  have h1 := hX.size
  have h2 := hK.size
  have h3 := hM.size
  have hlt := kf_lt he0 hb
  refine ⟨hQ.mv hM (fun b k => ⟨Nat.le_trans he0.size (hY b k).1, fun q => Or.inr ⟨(hY b k).1, (hY b k).2 q⟩⟩) (fun b k => ⟨Or.inl (Or.inl k), by have := hb b k; omega⟩), fun b k => ?_, by omega⟩
  have hl := hlt b k
  exact (hM.block b (by omega) (fun q => by have := (hY b q).1; omega)).trans ((hK.same b (k.elim Or.inl (fun k => Or.inr (Or.inl k)))).trans (hX.block b hl))
theorem did_spec {w0 w : World} {B : Nat → Prop} {pq ph : Nat} {q : Qs} (h : QG w0 B pq ph w q) (d : Dq) {A : Option Addr} {c : Nat} {G : Nat → Prop} (hG : ∀ b, G b → Kf w0 B b) (hrow : dlT.Row w G A d.r.l) (hid : inK .i64 d.r.id) (hbase : inK .i64 d.r.base) (hdl : d.r.l.length * 48 ≤ 140737488355328) :
    Calls Tryd.prog 30 #[hp pq, .agg #[.int .i64 d.k, .int .i64 d.r.id, .int .i64 d.r.base, .slice A d.r.l.length c]] w (fun en w' => ∃ u, en = .returned u ∧ u = .agg (didR q d).2.vals.toArray ∧ QG w0 B pq ph w' (didR q d).1 ∧ Kp w0 B w w') := by
  have hlt := kf_lt h.ext h.bl
  have hs0 := h.ext.size
  refine calls' (n := 49) (rs := #[.cell 4 69]) (l := [hp pq, .agg #[.int .i64 d.k, .int .i64 d.r.id, .int .i64 d.r.base, .slice A d.r.l.length c]]) Tryd.func30 rfl rfl rfl rfl rfl ?_
  have hX := Ext.refl w
  refine W_seq ?_
  refine W_region ?_
  refine op_box (v := .agg _) rfl rfl ?_
  intro w0_0 b0_0 E0_0 B0_0 L0_0
  have hG0_0 : w.heap.size ≤ b0_0 := by have := hX.size; omega
  replace hX := hX.trans E0_0
  refine op_alloc rfl Tryd.zero69 ?_
  intro w0_1 b0_1 E0_1 B0_1 L0_1
  have hG0_1 : w.heap.size ≤ b0_1 := by have := hX.size; omega
  have hNb0_0_0_1 : b0_0 ≠ b0_1 := by have := Blk.lt B0_0; omega
  replace B0_0 := Blk.ext B0_0 E0_1
  replace hX := hX.trans E0_1
  refine WL_nil ?_
  refine W_seq ?_
  refine W_region ?_
  refine op rfl (r_buildN (cs := [.int .i64 0, .int .i64 0, .int .i64 0, .int .i64 0, .int .i64 0, .bool false]) Tryd.layn69 rfl) ?_
  refine op_alloc rfl Tryd.zero69 ?_
  intro w1_1 b1_1 E1_1 B1_1 L1_1
  have hG1_1 : w.heap.size ≤ b1_1 := by have := hX.size; omega
  have hNb0_0_1_1 : b0_0 ≠ b1_1 := by have := Blk.lt B0_0; omega
  replace B0_0 := Blk.ext B0_0 E1_1
  have hNb0_1_1_1 : b0_1 ≠ b1_1 := by have := Blk.lt B0_1; omega
  replace B0_1 := Blk.ext B0_1 E1_1
  replace hX := hX.trans E1_1
  refine op_storeRow rfl rfl Tryd.sz69 B1_1 rfl rfl ?_
  intro w1_2 C1_2 BB1_2
  replace B0_0 := Chg.blk C1_2 B0_0 hNb0_0_1_1
  replace B0_1 := Chg.blk C1_2 B0_1 hNb0_1_1_1
  replace hX := hX.chg C1_2 hG1_1
  replace B1_1 := BB1_2
  refine WL_nil ?_
  refine W_seq ?_
  refine W_seq ?_
  refine W_region ?_
  refine op rfl (r_fieldAddr rfl Tryd.fld72_0 rfl) ?_
  refine op rfl (r_load (v := .int .i64 d.k) rfl Tryd.underlying3 rfl (Blk.cell B0_0 rfl)) ?_
  refine WL_nil ?_
  refine W_block ?_
  refine W_seq ?_
  refine W_region ?_
  refine op rfl (r_eql rfl rfl) ?_
  refine op rfl (r_assignV (v := .bool _) rfl) ?_
  refine WL_nil ?_
  refine W_ifp rfl (fun ht13 => ?_) (fun ht13 => ?_)
  · refine W_region ?_
    refine op rfl (r_moveV (v := hp pq) rfl) ?_
    refine op rfl (r_fieldAddr rfl Tryd.fld72_1 rfl) ?_
    refine op rfl (r_load_agg (cs := [.int .i64 d.r.id, .int .i64 d.r.base, .slice A d.r.l.length c]) rfl Tryd.underlying41 rfl Tryd.sz41 rfl (blk_rq B0_0)) ?_
    have hX4 := hX
    have hG4 := h.all hX
    have l0 := Blk.lt B0_0
    have l1 := Blk.lt B0_1
    have l2 := Blk.lt B1_1
    refine opCv rfl (r_call Tryd.func15 Tryd.nm15 rfl) (submitG hG4 d.r (c := c) (G := G) (fun k hk ↦ (hG k hk).elim Or.inl (fun q ↦ Or.inr (Or.inl q))) (hrow.keep (fun b hb ↦ hX.block b (hlt b (hG b hb))) (fun _ h ↦ h)) hid hbase hdl) ?_
    rintro v4 w4 ⟨hv4, hQ4, hK4⟩
    subst hv4
    have D0 := B0_0.at (hK4.same b0_0 (Or.inr (Or.inr ⟨hG0_0, l0⟩)))
    have D1 := B0_1.at (hK4.same b0_1 (Or.inr (Or.inr ⟨hG0_1, l1⟩)))
    have D2 := B1_1.at (hK4.same b1_1 (Or.inr (Or.inr ⟨hG1_1, l2⟩)))
    clear hX B0_0 B0_1 B1_1
    have B0_0 := D0
    have B0_1 := D1
    have B1_1 := D2
    have hX := hQ4.ext
    have g0 := hG0_0
    have g1 := hG0_1
    have g2 := hG1_1
    replace hG0_0 := Nat.le_trans hs0 hG0_0
    replace hG0_1 := Nat.le_trans hs0 hG0_1
    replace hG1_1 := Nat.le_trans hs0 hG1_1
    refine op rfl (r_fieldAddr rfl Tryd.fld69_0 rfl) ?_
    refine op_store (v := .int _ _) rfl rfl rfl Tryd.sz3 B1_1 (Nat.le_of_ble_eq_true rfl) ?_
    intro w4_5 C4_5 BB4_5
    replace B0_0 := Chg.blk C4_5 B0_0 hNb0_0_1_1
    replace B0_1 := Chg.blk C4_5 B0_1 hNb0_1_1_1
    replace hX := hX.chg C4_5 hG1_1
    replace B1_1 := BB4_5
    refine WL_nil ?_
    refine W_seq ?_
    refine W_region ?_
    refine op rfl (r_loadRow rfl B1_1 Tryd.underlying69 rfl Tryd.sz69) ?_
    refine op_storeRow rfl rfl Tryd.sz69 B0_1 rfl rfl ?_
    intro w13_1 C13_1 BB13_1
    replace B0_0 := Chg.blk C13_1 B0_0 hNb0_0_0_1
    replace B1_1 := Chg.blk C13_1 B1_1 (fun q => hNb0_1_1_1 q.symm)
    replace hX := hX.chg C13_1 hG0_1
    replace B0_1 := BB13_1
    refine WL_nil ?_
    refine W_ret (finX_ret ?_)
    refine fin_cell rfl B0_1 Tryd.underlying69 rfl Tryd.sz69 ?_
    first
      | (have hM := (Mv.of_chg (Z := fun b => b = b0_1 ∨ b = b1_1) C4_5 (Or.inr rfl)).trans (Mv.of_chg C13_1 (Or.inl rfl))
         have hf := did_end h.ext h.bl hX4 hQ4 hK4 hM (fun b k => by rcases k with rfl | rfl <;> exact ⟨by omega, fun _ => by omega⟩)
         exact ⟨_, rfl, by rw [did1 ht13]; rfl, by rw [did1 ht13]; exact hf.1, hf.2⟩)
      | (have hM := (((((Mv.of_ext (Z := fun b => b = b0_1 ∨ b = b1_1 ∨ b = b7_8) E7_8).trans (Mv.of_chg C7_9 (Or.inr (Or.inr rfl)))).trans (Mv.of_chg C8_2 (Or.inr (Or.inl rfl)))).trans (Mv.of_chg C9_2 (Or.inr (Or.inl rfl)))).trans (Mv.of_chg C13_1 (Or.inl rfl)))
         have hf := did_end h.ext h.bl hX7 hQ7 hK7 hM (fun b k => by have := hX7.size; rcases k with rfl | rfl | rfl <;> exact ⟨by omega, fun _ => by omega⟩)
         have h23 : d.k = 2 ∨ d.k = 3 := by omega
         exact ⟨_, rfl, by rw [did2 h23, ← hst]; rfl, by rw [did2 h23, ← hst]; exact hf.1, hf.2⟩)
      | (have hM := (Mv.of_chg (Z := fun b => b = b0_1 ∨ b = b1_1) C12_2 (Or.inr rfl)).trans (Mv.of_chg C13_1 (Or.inl rfl))
         have hf := did_end h.ext h.bl hX12 hQ12 hK12 hM (fun b k => by rcases k with rfl | rfl <;> exact ⟨by omega, fun _ => by omega⟩)
         exact ⟨_, rfl, by rw [did4 ht35]; rfl, by rw [did4 ht35]; exact hf.1, hf.2⟩)
      | exact ⟨_, rfl, by rw [did0 ht13 (by omega) ht35], by rw [did0 ht13 (by omega) ht35]; exact h.mv (Y := nobody) (Mv.of_ext hX) (fun b k => k.elim) (fun b k => ⟨Or.inl k, Nat.lt_of_lt_of_le (h.bl b k) hX.size⟩), fun b k => hX.block b (hlt b k), hX.size⟩
  · refine W_seq ?_
    refine W_seq ?_
    refine W_region ?_
    refine op rfl (r_eql rfl rfl) ?_
    refine op rfl (r_assignV (v := .bool _) rfl) ?_
    refine WL_nil ?_
    refine W_ifp rfl (fun ht20 => ?_) (fun ht20 => ?_)
    · refine W_skip ?_
      refine W_then (congrArg Value.bool (decide_eq_true ht20)) ?_
      refine W_seq ?_
      refine W_region ?_
      refine op rfl (r_moveV (v := hp pq) rfl) ?_
      refine op rfl (r_fieldAddr rfl Tryd.fld72_0 rfl) ?_
      refine op rfl (r_load (v := .int .i64 d.k) rfl Tryd.underlying3 rfl (Blk.cell B0_0 rfl)) ?_
      refine op rfl (r_eql rfl rfl) ?_
      have hX7 := hX
      have hG7 := h.all hX
      have l0 := Blk.lt B0_0
      have l1 := Blk.lt B0_1
      have l2 := Blk.lt B1_1
      refine opCv rfl (r_call Tryd.func16 Tryd.nm16 rfl) (stepG hG7 (decide (d.k = 2))) ?_
      rintro v7 w7 ⟨hv7, hQ7, hK7⟩
      have D0 := B0_0.at (hK7.same b0_0 (Or.inr (Or.inr ⟨hG0_0, l0⟩)))
      have D1 := B0_1.at (hK7.same b0_1 (Or.inr (Or.inr ⟨hG0_1, l1⟩)))
      have D2 := B1_1.at (hK7.same b1_1 (Or.inr (Or.inr ⟨hG1_1, l2⟩)))
      have hs7 := hK7.size
      clear hX B0_0 B0_1 B1_1
      have B0_0 := D0
      have B0_1 := D1
      have B1_1 := D2
      have hX := hQ7.ext
      have g0 := hG0_0
      have g1 := hG0_1
      have g2 := hG1_1
      replace hG0_0 := Nat.le_trans hs0 hG0_0
      replace hG0_1 := Nat.le_trans hs0 hG0_1
      replace hG1_1 := Nat.le_trans hs0 hG1_1
      obtain ⟨⟨q7, a, is⟩, hst⟩ : ∃ x, x = stepQ q (decide (d.k = 2)) := ⟨_, rfl⟩
      rw [← hst] at hv7 hQ7
      subst hv7
      refine op rfl (r_moveV (v := .tuple #[.agg a.vals.toArray, .bool is]) rfl) ?_
      refine op rfl (r_extract (vs := [.agg a.vals.toArray, .bool is]) rfl rfl) ?_
      refine op rfl (r_extract (vs := [.agg a.vals.toArray, .bool is]) rfl rfl) ?_
      refine op_alloc rfl Tryd.zero43 ?_
      intro w7_8 b7_8 E7_8 B7_8 L7_8
      have hG7_8 : w0.heap.size ≤ b7_8 := by have := hX.size; omega
      have hNb0_0_7_8 : b0_0 ≠ b7_8 := by have := Blk.lt B0_0; omega
      replace B0_0 := Blk.ext B0_0 E7_8
      have hNb0_1_7_8 : b0_1 ≠ b7_8 := by have := Blk.lt B0_1; omega
      replace B0_1 := Blk.ext B0_1 E7_8
      have hNb1_1_7_8 : b1_1 ≠ b7_8 := by have := Blk.lt B1_1; omega
      replace B1_1 := Blk.ext B1_1 E7_8
      replace hX := hX.trans E7_8
      refine op_storeRow rfl rfl Tryd.sz43 B7_8 rfl rfl ?_
      intro w7_9 C7_9 BB7_9
      replace B0_0 := Chg.blk C7_9 B0_0 hNb0_0_7_8
      replace B0_1 := Chg.blk C7_9 B0_1 hNb0_1_7_8
      replace B1_1 := Chg.blk C7_9 B1_1 hNb1_1_7_8
      replace hX := hX.chg C7_9 hG7_8
      replace B7_8 := BB7_9
      refine op rfl (r_assignV (v := .bool is) rfl) ?_
      refine WL_nil ?_
      refine W_seq ?_
      refine W_region ?_
      refine op rfl (r_loadRow rfl B7_8 Tryd.underlying43 rfl Tryd.sz43) ?_
      refine op rfl (r_fieldAddr rfl Tryd.fld69_1 rfl) ?_
      refine op_storeAt (xs := a.vals) rfl rfl Tryd.sz43 B1_1 (Nat.le_of_ble_eq_true rfl) rfl ?_
      intro w8_2 C8_2 BB8_2
      replace B0_0 := Chg.blk C8_2 B0_0 hNb0_0_1_1
      replace B0_1 := Chg.blk C8_2 B0_1 hNb0_1_1_1
      replace B7_8 := Chg.blk C8_2 B7_8 (fun q => hNb1_1_7_8 q.symm)
      replace hX := hX.chg C8_2 hG1_1
      replace B1_1 : Blk w8_2 b1_1 #[.int .i64 0, .int .i64 a.id, .int .i64 a.kind, .int .i64 a.rev, .int .i64 a.e, .bool false] _ := BB8_2
      refine WL_nil ?_
      refine W_region ?_
      refine op rfl (r_moveV (v := .bool is) rfl) ?_
      refine op rfl (r_fieldAddr rfl Tryd.fld69_2 rfl) ?_
      refine op_store (v := .bool is) rfl rfl rfl Tryd.sz4 B1_1 (Nat.le_of_ble_eq_true rfl) ?_
      intro w9_2 C9_2 BB9_2
      replace B0_0 := Chg.blk C9_2 B0_0 hNb0_0_1_1
      replace B0_1 := Chg.blk C9_2 B0_1 hNb0_1_1_1
      replace B7_8 := Chg.blk C9_2 B7_8 (fun q => hNb1_1_7_8 q.symm)
      replace hX := hX.chg C9_2 hG1_1
      replace B1_1 := BB9_2
      refine WL_nil ?_
      refine W_seq ?_
      refine W_region ?_
      refine op rfl (r_loadRow rfl B1_1 Tryd.underlying69 rfl Tryd.sz69) ?_
      refine op_storeRow rfl rfl Tryd.sz69 B0_1 rfl rfl ?_
      intro w13_1 C13_1 BB13_1
      replace B0_0 := Chg.blk C13_1 B0_0 hNb0_0_0_1
      replace B1_1 := Chg.blk C13_1 B1_1 (fun q => hNb0_1_1_1 q.symm)
      replace B7_8 := Chg.blk C13_1 B7_8 (fun q => hNb0_1_7_8 q.symm)
      replace hX := hX.chg C13_1 hG0_1
      replace B0_1 := BB13_1
      refine WL_nil ?_
      refine W_ret (finX_ret ?_)
      refine fin_cell rfl B0_1 Tryd.underlying69 rfl Tryd.sz69 ?_
      first
        | (have hM := (Mv.of_chg (Z := fun b => b = b0_1 ∨ b = b1_1) C4_5 (Or.inr rfl)).trans (Mv.of_chg C13_1 (Or.inl rfl))
           have hf := did_end h.ext h.bl hX4 hQ4 hK4 hM (fun b k => by rcases k with rfl | rfl <;> exact ⟨by omega, fun _ => by omega⟩)
           exact ⟨_, rfl, by rw [did1 ht13]; rfl, by rw [did1 ht13]; exact hf.1, hf.2⟩)
        | (have hM := (((((Mv.of_ext (Z := fun b => b = b0_1 ∨ b = b1_1 ∨ b = b7_8) E7_8).trans (Mv.of_chg C7_9 (Or.inr (Or.inr rfl)))).trans (Mv.of_chg C8_2 (Or.inr (Or.inl rfl)))).trans (Mv.of_chg C9_2 (Or.inr (Or.inl rfl)))).trans (Mv.of_chg C13_1 (Or.inl rfl)))
           have hf := did_end h.ext h.bl hX7 hQ7 hK7 hM (fun b k => by have := hX7.size; rcases k with rfl | rfl | rfl <;> exact ⟨by omega, fun _ => by omega⟩)
           have h23 : d.k = 2 ∨ d.k = 3 := by omega
           exact ⟨_, rfl, by rw [did2 h23, ← hst]; rfl, by rw [did2 h23, ← hst]; exact hf.1, hf.2⟩)
        | (have hM := (Mv.of_chg (Z := fun b => b = b0_1 ∨ b = b1_1) C12_2 (Or.inr rfl)).trans (Mv.of_chg C13_1 (Or.inl rfl))
           have hf := did_end h.ext h.bl hX12 hQ12 hK12 hM (fun b k => by rcases k with rfl | rfl <;> exact ⟨by omega, fun _ => by omega⟩)
           exact ⟨_, rfl, by rw [did4 ht35]; rfl, by rw [did4 ht35]; exact hf.1, hf.2⟩)
        | exact ⟨_, rfl, by rw [did0 ht13 (by omega) ht35], by rw [did0 ht13 (by omega) ht35]; exact h.mv (Y := nobody) (Mv.of_ext hX) (fun b k => k.elim) (fun b k => ⟨Or.inl k, Nat.lt_of_lt_of_le (h.bl b k) hX.size⟩), fun b k => hX.block b (hlt b k), hX.size⟩
    · refine W_region ?_
      refine op rfl (r_eql rfl rfl) ?_
      refine op rfl (r_assignV (v := .bool _) rfl) ?_
      refine WL_nil ?_
      refine W_ifp rfl (fun ht20 => ?_) (fun ht20 => ?_)
      · refine W_seq ?_
        refine W_region ?_
        refine op rfl (r_moveV (v := hp pq) rfl) ?_
        refine op rfl (r_fieldAddr rfl Tryd.fld72_0 rfl) ?_
        refine op rfl (r_load (v := .int .i64 d.k) rfl Tryd.underlying3 rfl (Blk.cell B0_0 rfl)) ?_
        refine op rfl (r_eql rfl rfl) ?_
        have hX7 := hX
        have hG7 := h.all hX
        have l0 := Blk.lt B0_0
        have l1 := Blk.lt B0_1
        have l2 := Blk.lt B1_1
        refine opCv rfl (r_call Tryd.func16 Tryd.nm16 rfl) (stepG hG7 (decide (d.k = 2))) ?_
        rintro v7 w7 ⟨hv7, hQ7, hK7⟩
        have D0 := B0_0.at (hK7.same b0_0 (Or.inr (Or.inr ⟨hG0_0, l0⟩)))
        have D1 := B0_1.at (hK7.same b0_1 (Or.inr (Or.inr ⟨hG0_1, l1⟩)))
        have D2 := B1_1.at (hK7.same b1_1 (Or.inr (Or.inr ⟨hG1_1, l2⟩)))
        have hs7 := hK7.size
        clear hX B0_0 B0_1 B1_1
        have B0_0 := D0
        have B0_1 := D1
        have B1_1 := D2
        have hX := hQ7.ext
        have g0 := hG0_0
        have g1 := hG0_1
        have g2 := hG1_1
        replace hG0_0 := Nat.le_trans hs0 hG0_0
        replace hG0_1 := Nat.le_trans hs0 hG0_1
        replace hG1_1 := Nat.le_trans hs0 hG1_1
        obtain ⟨⟨q7, a, is⟩, hst⟩ : ∃ x, x = stepQ q (decide (d.k = 2)) := ⟨_, rfl⟩
        rw [← hst] at hv7 hQ7
        subst hv7
        refine op rfl (r_moveV (v := .tuple #[.agg a.vals.toArray, .bool is]) rfl) ?_
        refine op rfl (r_extract (vs := [.agg a.vals.toArray, .bool is]) rfl rfl) ?_
        refine op rfl (r_extract (vs := [.agg a.vals.toArray, .bool is]) rfl rfl) ?_
        refine op_alloc rfl Tryd.zero43 ?_
        intro w7_8 b7_8 E7_8 B7_8 L7_8
        have hG7_8 : w0.heap.size ≤ b7_8 := by have := hX.size; omega
        have hNb0_0_7_8 : b0_0 ≠ b7_8 := by have := Blk.lt B0_0; omega
        replace B0_0 := Blk.ext B0_0 E7_8
        have hNb0_1_7_8 : b0_1 ≠ b7_8 := by have := Blk.lt B0_1; omega
        replace B0_1 := Blk.ext B0_1 E7_8
        have hNb1_1_7_8 : b1_1 ≠ b7_8 := by have := Blk.lt B1_1; omega
        replace B1_1 := Blk.ext B1_1 E7_8
        replace hX := hX.trans E7_8
        refine op_storeRow rfl rfl Tryd.sz43 B7_8 rfl rfl ?_
        intro w7_9 C7_9 BB7_9
        replace B0_0 := Chg.blk C7_9 B0_0 hNb0_0_7_8
        replace B0_1 := Chg.blk C7_9 B0_1 hNb0_1_7_8
        replace B1_1 := Chg.blk C7_9 B1_1 hNb1_1_7_8
        replace hX := hX.chg C7_9 hG7_8
        replace B7_8 := BB7_9
        refine op rfl (r_assignV (v := .bool is) rfl) ?_
        refine WL_nil ?_
        refine W_seq ?_
        refine W_region ?_
        refine op rfl (r_loadRow rfl B7_8 Tryd.underlying43 rfl Tryd.sz43) ?_
        refine op rfl (r_fieldAddr rfl Tryd.fld69_1 rfl) ?_
        refine op_storeAt (xs := a.vals) rfl rfl Tryd.sz43 B1_1 (Nat.le_of_ble_eq_true rfl) rfl ?_
        intro w8_2 C8_2 BB8_2
        replace B0_0 := Chg.blk C8_2 B0_0 hNb0_0_1_1
        replace B0_1 := Chg.blk C8_2 B0_1 hNb0_1_1_1
        replace B7_8 := Chg.blk C8_2 B7_8 (fun q => hNb1_1_7_8 q.symm)
        replace hX := hX.chg C8_2 hG1_1
        replace B1_1 : Blk w8_2 b1_1 #[.int .i64 0, .int .i64 a.id, .int .i64 a.kind, .int .i64 a.rev, .int .i64 a.e, .bool false] _ := BB8_2
        refine WL_nil ?_
        refine W_region ?_
        refine op rfl (r_moveV (v := .bool is) rfl) ?_
        refine op rfl (r_fieldAddr rfl Tryd.fld69_2 rfl) ?_
        refine op_store (v := .bool is) rfl rfl rfl Tryd.sz4 B1_1 (Nat.le_of_ble_eq_true rfl) ?_
        intro w9_2 C9_2 BB9_2
        replace B0_0 := Chg.blk C9_2 B0_0 hNb0_0_1_1
        replace B0_1 := Chg.blk C9_2 B0_1 hNb0_1_1_1
        replace B7_8 := Chg.blk C9_2 B7_8 (fun q => hNb1_1_7_8 q.symm)
        replace hX := hX.chg C9_2 hG1_1
        replace B1_1 := BB9_2
        refine WL_nil ?_
        refine W_seq ?_
        refine W_region ?_
        refine op rfl (r_loadRow rfl B1_1 Tryd.underlying69 rfl Tryd.sz69) ?_
        refine op_storeRow rfl rfl Tryd.sz69 B0_1 rfl rfl ?_
        intro w13_1 C13_1 BB13_1
        replace B0_0 := Chg.blk C13_1 B0_0 hNb0_0_0_1
        replace B1_1 := Chg.blk C13_1 B1_1 (fun q => hNb0_1_1_1 q.symm)
        replace B7_8 := Chg.blk C13_1 B7_8 (fun q => hNb0_1_7_8 q.symm)
        replace hX := hX.chg C13_1 hG0_1
        replace B0_1 := BB13_1
        refine WL_nil ?_
        refine W_ret (finX_ret ?_)
        refine fin_cell rfl B0_1 Tryd.underlying69 rfl Tryd.sz69 ?_
        first
          | (have hM := (Mv.of_chg (Z := fun b => b = b0_1 ∨ b = b1_1) C4_5 (Or.inr rfl)).trans (Mv.of_chg C13_1 (Or.inl rfl))
             have hf := did_end h.ext h.bl hX4 hQ4 hK4 hM (fun b k => by rcases k with rfl | rfl <;> exact ⟨by omega, fun _ => by omega⟩)
             exact ⟨_, rfl, by rw [did1 ht13]; rfl, by rw [did1 ht13]; exact hf.1, hf.2⟩)
          | (have hM := (((((Mv.of_ext (Z := fun b => b = b0_1 ∨ b = b1_1 ∨ b = b7_8) E7_8).trans (Mv.of_chg C7_9 (Or.inr (Or.inr rfl)))).trans (Mv.of_chg C8_2 (Or.inr (Or.inl rfl)))).trans (Mv.of_chg C9_2 (Or.inr (Or.inl rfl)))).trans (Mv.of_chg C13_1 (Or.inl rfl)))
             have hf := did_end h.ext h.bl hX7 hQ7 hK7 hM (fun b k => by have := hX7.size; rcases k with rfl | rfl | rfl <;> exact ⟨by omega, fun _ => by omega⟩)
             have h23 : d.k = 2 ∨ d.k = 3 := by omega
             exact ⟨_, rfl, by rw [did2 h23, ← hst]; rfl, by rw [did2 h23, ← hst]; exact hf.1, hf.2⟩)
          | (have hM := (Mv.of_chg (Z := fun b => b = b0_1 ∨ b = b1_1) C12_2 (Or.inr rfl)).trans (Mv.of_chg C13_1 (Or.inl rfl))
             have hf := did_end h.ext h.bl hX12 hQ12 hK12 hM (fun b k => by rcases k with rfl | rfl <;> exact ⟨by omega, fun _ => by omega⟩)
             exact ⟨_, rfl, by rw [did4 ht35]; rfl, by rw [did4 ht35]; exact hf.1, hf.2⟩)
          | exact ⟨_, rfl, by rw [did0 ht13 (by omega) ht35], by rw [did0 ht13 (by omega) ht35]; exact h.mv (Y := nobody) (Mv.of_ext hX) (fun b k => k.elim) (fun b k => ⟨Or.inl k, Nat.lt_of_lt_of_le (h.bl b k) hX.size⟩), fun b k => hX.block b (hlt b k), hX.size⟩
      · refine W_seq ?_
        refine W_region ?_
        refine op rfl (r_eql rfl rfl) ?_
        refine op rfl (r_assignV (v := .bool _) rfl) ?_
        refine WL_nil ?_
        refine W_ifp rfl (fun ht35 => ?_) (fun ht35 => ?_)
        · have hXw := hX
          replace hX := h.ext.trans hX
          have g0 := hG0_0
          have g1 := hG0_1
          have g2 := hG1_1
          replace hG0_0 := Nat.le_trans hs0 hG0_0
          replace hG0_1 := Nat.le_trans hs0 hG0_1
          replace hG1_1 := Nat.le_trans hs0 hG1_1
          refine W_seq ?_
          refine W_drawF (W0 := w0) (fun b : Nat => b = b0_0 ∨ b = b0_1 ∨ b = b1_1 ∨ False) Tryd.wd rfl ?_
          intro wd11 hD
          replace B0_0 := Blk.ext B0_0 hD
          replace B0_1 := Blk.ext B0_1 hD
          replace B1_1 := Blk.ext B1_1 hD
          replace hX := hX.trans hD
          have DB0_0 := B0_0
          have DB0_1 := B0_1
          have DB1_1 := B1_1
          have hS : Ext w0 wd11 ∧ Same (fun b : Nat => b = b0_0 ∨ b = b0_1 ∨ b = b1_1 ∨ False) wd11 wd11 := ⟨hX, fun _ _ => rfl⟩
          refine A_take (i := 0) rfl (by kernel_rfl) (by kernel_rfl) (by kernel_rfl) rfl hS (fun _ hw => r_moveV (v := hp pq) rfl) ?_
          refine A_take (i := 2) rfl (by kernel_rfl) (by kernel_rfl) (by kernel_rfl) rfl hS (fun _ hw => r_fieldAddr rfl Tryd.fld72_1 rfl) ?_
          refine A_take (i := 3) rfl (by kernel_rfl) (by kernel_rfl) (by kernel_rfl) rfl hS (fun _ hw => r_fieldAddr rfl Tryd.fld41_2 rfl) ?_
          refine A_take (i := 4) rfl (by kernel_rfl) (by kernel_rfl) (by kernel_rfl) rfl hS (fun _ hw => r_load (v := .slice A d.r.l.length c) rfl Tryd.underlying39 rfl (Blk.cell (Blk.at DB0_0 (hw.2 _ (Or.inl rfl))) rfl)) ?_
          refine A_ready1 (i := 1) (by kernel_rfl) ?_
          have hX11 := hXw.trans hD
          refine O_call rfl rfl (r_call Tryd.func39 Tryd.nm39 rfl) (que_history_spec (h.que.ext hX11)) ?_
          rintro v11 w11 ⟨rfl, hE⟩
          replace B0_0 := Blk.ext B0_0 hE
          replace B0_1 := Blk.ext B0_1 hE
          replace B1_1 := Blk.ext B1_1 hE
          replace hX := hX.trans hE
          replace hS : Ext w0 w11 ∧ Same (fun b : Nat => b = b0_0 ∨ b = b0_1 ∨ b = b1_1 ∨ False) wd11 w11 := ⟨hX, fun b hb => Or.elim hb (fun q => by subst q; exact Blk.eq B0_0 DB0_0) (fun hb => Or.elim hb (fun q => by subst q; exact Blk.eq B0_1 DB0_1) (fun hb => Or.elim hb (fun q => by subst q; exact Blk.eq B1_1 DB1_1) (fun hb => hb.elim)))⟩
          refine ⟨hS, ?_⟩
          refine A_ready1 (i := 5) (by kernel_rfl) ?_
          have hX12 := hX11.trans hE
          have hG11 := h.all hX12
          have l0 := Blk.lt B0_0
          have l1 := Blk.lt B0_1
          have l2 := Blk.lt B1_1
          refine O_call rfl rfl (r_call Tryd.func22 Tryd.nm22 rfl) (commitG hG11 (cd := c) (G := G) (fun k hk ↦ (hG k hk).elim Or.inl (fun q ↦ Or.inr (Or.inl q))) (hrow.keep (fun b hb ↦ hX12.block b (hlt b (hG b hb))) (fun _ h ↦ h)) hdl) ?_
          rintro v12 w12 ⟨hv12, hQ12, hK12⟩
          subst hv12
          have D0 := B0_0.at (hK12.same b0_0 (Or.inr (Or.inr ⟨g0, l0⟩)))
          have D1 := B0_1.at (hK12.same b0_1 (Or.inr (Or.inr ⟨g1, l1⟩)))
          have D2 := B1_1.at (hK12.same b1_1 (Or.inr (Or.inr ⟨g2, l2⟩)))
          clear hX B0_0 B0_1 B1_1
          have B0_0 := D0
          have B0_1 := D1
          have B1_1 := D2
          have hX := hQ12.ext
          replace hS : Ext w0 w12 ∧ Same (fun b : Nat => b = b0_0 ∨ b = b0_1 ∨ b = b1_1 ∨ False) wd11 w12 := ⟨hX, fun b hb => hb.elim (fun q => by subst q; exact Blk.eq D0 DB0_0) (fun hb => hb.elim (fun q => by subst q; exact Blk.eq D1 DB0_1) (fun hb => hb.elim (fun q => by subst q; exact Blk.eq D2 DB1_1) False.elim))⟩
          refine ⟨hS, ?_⟩
          refine A_take (i := 6) rfl (by kernel_rfl) (by kernel_rfl) (by kernel_rfl) rfl hS (fun _ hw => r_moveV (v := .tuple #[.int .i64 (commitR q.H d.r.l).2.1, .int .i64 (commitR q.H d.r.l).2.2]) rfl) ?_
          refine A_take (i := 7) rfl (by kernel_rfl) (by kernel_rfl) (by kernel_rfl) rfl hS (fun _ hw => r_extract (vs := [.int .i64 (commitR q.H d.r.l).2.1, .int .i64 (commitR q.H d.r.l).2.2]) rfl rfl) ?_
          refine A_take (i := 8) rfl (by kernel_rfl) (by kernel_rfl) (by kernel_rfl) rfl hS (fun _ hw => r_extract (vs := [.int .i64 (commitR q.H d.r.l).2.1, .int .i64 (commitR q.H d.r.l).2.2]) rfl rfl) ?_
          refine A_take (i := 9) rfl (by kernel_rfl) (by kernel_rfl) (by kernel_rfl) rfl hS (fun _ hw => r_assignV (v := .int .i64 (commitR q.H d.r.l).2.1) rfl) ?_
          refine A_take (i := 10) rfl (by kernel_rfl) (by kernel_rfl) (by kernel_rfl) rfl hS (fun _ hw => r_assignV (v := .int .i64 (commitR q.H d.r.l).2.2) rfl) ?_
          refine A_done (by kernel_rfl) ?_
          refine W_region ?_
          refine op rfl (r_moveV (v := .int .i64 (commitR q.H d.r.l).2.2) rfl) ?_
          refine op rfl (r_fieldAddr rfl Tryd.fld69_0 rfl) ?_
          refine op_store (v := .int .i64 (commitR q.H d.r.l).2.2) rfl rfl rfl Tryd.sz3 B1_1 (Nat.le_of_ble_eq_true rfl) ?_
          intro w12_2 C12_2 BB12_2
          replace B0_0 := Chg.blk C12_2 B0_0 hNb0_0_1_1
          replace B0_1 := Chg.blk C12_2 B0_1 hNb0_1_1_1
          replace hX := hX.chg C12_2 hG1_1
          replace B1_1 := BB12_2
          refine WL_nil ?_
          refine W_seq ?_
          refine W_region ?_
          refine op rfl (r_loadRow rfl B1_1 Tryd.underlying69 rfl Tryd.sz69) ?_
          refine op_storeRow rfl rfl Tryd.sz69 B0_1 rfl rfl ?_
          intro w13_1 C13_1 BB13_1
          replace B0_0 := Chg.blk C13_1 B0_0 hNb0_0_0_1
          replace B1_1 := Chg.blk C13_1 B1_1 (fun q => hNb0_1_1_1 q.symm)
          replace hX := hX.chg C13_1 hG0_1
          replace B0_1 := BB13_1
          refine WL_nil ?_
          refine W_ret (finX_ret ?_)
          refine fin_cell rfl B0_1 Tryd.underlying69 rfl Tryd.sz69 ?_
          first
            | (have hM := (Mv.of_chg (Z := fun b => b = b0_1 ∨ b = b1_1) C4_5 (Or.inr rfl)).trans (Mv.of_chg C13_1 (Or.inl rfl))
               have hf := did_end h.ext h.bl hX4 hQ4 hK4 hM (fun b k => by rcases k with rfl | rfl <;> exact ⟨by omega, fun _ => by omega⟩)
               exact ⟨_, rfl, by rw [did1 ht13]; rfl, by rw [did1 ht13]; exact hf.1, hf.2⟩)
            | (have hM := (((((Mv.of_ext (Z := fun b => b = b0_1 ∨ b = b1_1 ∨ b = b7_8) E7_8).trans (Mv.of_chg C7_9 (Or.inr (Or.inr rfl)))).trans (Mv.of_chg C8_2 (Or.inr (Or.inl rfl)))).trans (Mv.of_chg C9_2 (Or.inr (Or.inl rfl)))).trans (Mv.of_chg C13_1 (Or.inl rfl)))
               have hf := did_end h.ext h.bl hX7 hQ7 hK7 hM (fun b k => by have := hX7.size; rcases k with rfl | rfl | rfl <;> exact ⟨by omega, fun _ => by omega⟩)
               have h23 : d.k = 2 ∨ d.k = 3 := by omega
               exact ⟨_, rfl, by rw [did2 h23, ← hst]; rfl, by rw [did2 h23, ← hst]; exact hf.1, hf.2⟩)
            | (have hM := (Mv.of_chg (Z := fun b => b = b0_1 ∨ b = b1_1) C12_2 (Or.inr rfl)).trans (Mv.of_chg C13_1 (Or.inl rfl))
               have hf := did_end h.ext h.bl hX12 hQ12 hK12 hM (fun b k => by rcases k with rfl | rfl <;> exact ⟨by omega, fun _ => by omega⟩)
               exact ⟨_, rfl, by rw [did4 ht35]; rfl, by rw [did4 ht35]; exact hf.1, hf.2⟩)
            | exact ⟨_, rfl, by rw [did0 ht13 (by omega) ht35], by rw [did0 ht13 (by omega) ht35]; exact h.mv (Y := nobody) (Mv.of_ext hX) (fun b k => k.elim) (fun b k => ⟨Or.inl k, Nat.lt_of_lt_of_le (h.bl b k) hX.size⟩), fun b k => hX.block b (hlt b k), hX.size⟩
        · refine W_skip ?_
          refine W_seq ?_
          refine W_region ?_
          refine op rfl (r_loadRow rfl B1_1 Tryd.underlying69 rfl Tryd.sz69) ?_
          refine op_storeRow rfl rfl Tryd.sz69 B0_1 rfl rfl ?_
          intro w13_1 C13_1 BB13_1
          replace B0_0 := Chg.blk C13_1 B0_0 hNb0_0_0_1
          replace B1_1 := Chg.blk C13_1 B1_1 (fun q => hNb0_1_1_1 q.symm)
          replace hX := hX.chg C13_1 hG0_1
          replace B0_1 := BB13_1
          refine WL_nil ?_
          refine W_ret (finX_ret ?_)
          refine fin_cell rfl B0_1 Tryd.underlying69 rfl Tryd.sz69 ?_
          first
            | (have hM := (Mv.of_chg (Z := fun b => b = b0_1 ∨ b = b1_1) C4_5 (Or.inr rfl)).trans (Mv.of_chg C13_1 (Or.inl rfl))
               have hf := did_end h.ext h.bl hX4 hQ4 hK4 hM (fun b k => by rcases k with rfl | rfl <;> exact ⟨by omega, fun _ => by omega⟩)
               exact ⟨_, rfl, by rw [did1 ht13]; rfl, by rw [did1 ht13]; exact hf.1, hf.2⟩)
            | (have hM := (((((Mv.of_ext (Z := fun b => b = b0_1 ∨ b = b1_1 ∨ b = b7_8) E7_8).trans (Mv.of_chg C7_9 (Or.inr (Or.inr rfl)))).trans (Mv.of_chg C8_2 (Or.inr (Or.inl rfl)))).trans (Mv.of_chg C9_2 (Or.inr (Or.inl rfl)))).trans (Mv.of_chg C13_1 (Or.inl rfl)))
               have hf := did_end h.ext h.bl hX7 hQ7 hK7 hM (fun b k => by have := hX7.size; rcases k with rfl | rfl | rfl <;> exact ⟨by omega, fun _ => by omega⟩)
               have h23 : d.k = 2 ∨ d.k = 3 := by omega
               exact ⟨_, rfl, by rw [did2 h23, ← hst]; rfl, by rw [did2 h23, ← hst]; exact hf.1, hf.2⟩)
            | (have hM := (Mv.of_chg (Z := fun b => b = b0_1 ∨ b = b1_1) C12_2 (Or.inr rfl)).trans (Mv.of_chg C13_1 (Or.inl rfl))
               have hf := did_end h.ext h.bl hX12 hQ12 hK12 hM (fun b k => by rcases k with rfl | rfl <;> exact ⟨by omega, fun _ => by omega⟩)
               exact ⟨_, rfl, by rw [did4 ht35]; rfl, by rw [did4 ht35]; exact hf.1, hf.2⟩)
            | exact ⟨_, rfl, by rw [did0 ht13 (by omega) ht35], by rw [did0 ht13 (by omega) ht35]; exact h.mv (Y := nobody) (Mv.of_ext hX) (fun b k => k.elim) (fun b k => ⟨Or.inl k, Nat.lt_of_lt_of_le (h.bl b k) hX.size⟩), fun b k => hX.block b (hlt b k), hX.size⟩
end Go.Proofs.YtmedmajdoecjfaaDoor
