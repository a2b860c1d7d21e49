/- The row of OrderReads: it answers true for every input. -/
import Derived.Test.YtlihgjonmliodaaRows
import Derived.Test.YtlihgjonmliodaaOReads
import Derived.Test.YtlihgjonmliodaaWSized
import Derived.WalkKit
import Derived.ProofKit
import Derived.OpenShut
import Derived.ShutString
import Derived.ChangeOld
import Derived.Below
import Derived.SizedLaws
namespace Go.Proofs.Ytlihgjonmliodaa.orderReads
open Go.ChangeShapes Go.WideShapes Go.ChangeAt Go.RowKit
open Go.ChangeMaps (open_string shut_string)
set_option linter.unusedVariables false
theorem own : ownKnob Try.prog.godebug = none := by kernel_rfl
theorem laidOut : laidOutB Try.prog = true := by kernel_rfl
theorem row_in {k : IntKind} {w : World} {a : Option Addr} {len cap : Nat} {zs : List Int} (h : (a = none ∧ len = 0 ∧ cap = 0 ∧ zs = []) ∨
  ∃ x, a = some x ∧ len ≤ cap ∧ cap ≤ maxLen ∧ zs.length = cap ∧ (∀ i, i < zs.length → w.cell? (x.add i) = some (.int k (zs.getD i 0))) ∧ ∀ n ∈ zs, (Lit.int k n).wf = true) : RowIn k w a len (zs.take len) := by
  rcases h with ⟨rfl, rfl, rfl, rfl⟩ | ⟨x, rfl, h1, h2, h3, h4, h5⟩
  · exact ⟨rfl, by simp, fun i hi => by omega⟩
  · refine ⟨by simp; omega, fun n hn => h5 n (List.mem_of_mem_take hn), fun i hi => ⟨x, rfl, ?_⟩⟩
    rw [h4 i (by omega)]
    simp [List.getD_eq_getElem?_getD, hi]
theorem list_16 {α : Type} {l : List α} (h : l.length = 16) : ∃ x0 x1 x2 x3 x4 x5 x6 x7 x8 x9 x10 x11 x12 x13 x14 x15, l = [x0, x1, x2, x3, x4, x5, x6, x7, x8, x9, x10, x11, x12, x13, x14, x15] := by
  match l, h with
  | [x0, x1, x2, x3, x4, x5, x6, x7, x8, x9, x10, x11, x12, x13, x14, x15], _ => exact ⟨x0, x1, x2, x3, x4, x5, x6, x7, x8, x9, x10, x11, x12, x13, x14, x15, rfl⟩
set_option maxRecDepth 100000 in
theorem lifted (os : Os) (started : os.Started) (H : Type) (enc : TypeId × Value → H) :
    ReturnsInHanded {} Try.checked os 8 .any (Rows.orderReadsSpec.pre6 enc Try.prog Try.f8 Rows.orderReadsRow.domain false) (Rows.orderReadsSpec.post enc Try.prog Try.f8 false true false false) := by
  refine returnsInHanded_of_change_sized (C := Try.checked) own started (by kernel_rfl) Try.func8
    (ChangeSpec.witness6 (enc := enc) (C := Try.checked) false ⟨#[], #[.slice none 0 0, .agg #[.int .u8 0, .int .i64 0, .int .i64 0, .int .i64 0, .int .i64 0, .int .u8 0, .int .i64 0, .int .i64 0, .bool false, .bool false, .int .u8 0, .int .i64 0, .int .i64 0, .int .i64 0, .int .i64 0, .int .u8 0], .int .u8 0, .int .u8 0, .int .u8 0], []⟩ 8 (by kernel_rfl) (by kernel_rfl) (by kernel_rfl) (by kernel_rfl)) ?_
  intro W base args ds gs before hval0 hW hcnd hsz0 _
  have hsz : (DataW.weightsEach Try.prog (Try.f8.params.toList ++ Rows.orderReadsSpec.plain.varTypes Try.prog) (ds ++ gs)).all (· ≤ reachBytes) = true := hsz0
  have hval : ∀ (j : Nat) t v, Try.f8.params[j]? = some t → args[j]? = some v → Value.okWide Try.prog W .any base t v := hval0
  have hW' := hW
  obtain ⟨p, q, hA0, hV, rfl, hfz, hnd⟩ := hW
  have hA : DataW.TrodAll enc Try.prog W 0 (fun _ => true) true Try.f8.params.toList args.toList ds p := hA0
  rw [Try.params8] at hA hval hsz
  obtain ⟨v0, vs0, d0, ds0, p0, q0, hargs, rfl, rfl, h0, r0⟩ := trodAll_cons hA
  obtain ⟨v1, vs1, d1, ds1, p1, q1, rfl, rfl, rfl, h1, r1⟩ := trodAll_cons r0
  obtain ⟨v2, vs2, d2, ds2, p2, q2, rfl, rfl, rfl, h2, r2⟩ := trodAll_cons r1
  obtain ⟨v3, vs3, d3, ds3, p3, q3, rfl, rfl, rfl, h3, r3⟩ := trodAll_cons r2
  obtain ⟨v4, vs4, d4, ds4, p4, q4, rfl, rfl, rfl, h4, r4⟩ := trodAll_cons r3
  obtain ⟨rfl, rfl, rfl⟩ := trodAll_nil r4
  obtain rfl : args = #[v0, v1, v2, v3, v4] := by cases args; simp_all
  obtain ⟨rfl, rfl⟩ := trodVars_none hV
  obtain ⟨a0, len0, cap0, rfl⟩ := okWide_slice Try.underlying34 (hval 0 34 v0 rfl rfl)
  have k0 := h0
  have lt0 : ∀ x ∈ p0, x.block < W.heap.size := by obtain ⟨m, hm⟩ := k0; exact DataW.trod_lt m _ _ _ hm
  obtain ⟨z0, w0⟩ : ∃ zs, (a0 = none ∧ len0 = 0 ∧ cap0 = 0 ∧ zs = []) ∨ ∃ x, a0 = some x ∧ len0 ≤ cap0 ∧ cap0 ≤ maxLen ∧ zs.length = cap0 ∧ (∀ i, i < zs.length → W.cell? (x.add i) = some (.int .u8 (zs.getD i 0))) ∧ ∀ n ∈ zs, (Lit.int .u8 n).wf = true := by
    obtain ⟨fuel, hf⟩ := h0
    rcases open_ints Try.underlying34 Try.underlying5 (by kernel_rfl) hf with ⟨hcs, _⟩ | ⟨x, l, c, zs, hcs, _, hl, hm, hz, _, hcell, hwz⟩
    · simp [Value.cells] at hcs
      obtain ⟨rfl, rfl, rfl⟩ := hcs
      exact ⟨[], .inl ⟨rfl, rfl, rfl, rfl⟩⟩
    · simp [Value.cells] at hcs
      obtain ⟨rfl, rfl, rfl⟩ := hcs
      exact ⟨zs, .inr ⟨_, rfl, hl, hm, by simpa using hz, hcell, hwz⟩⟩
  have row0 := row_in w0
  have y0 : len0 * 1 ≤ 140737488351232 := Go.Proofs.YtlihgjonmliodaaW.PrintWords.sized_ints hsz (j := 0) (t := 34) rfl rfl Try.underlying34 Try.underlying5 (by kernel_rfl) (by kernel_rfl) h0
  obtain ⟨cs1, rfl, hz1⟩ := okWide_struct Try.underlying27 (hval 1 27 v1 rfl rfl)
  obtain ⟨l1⟩ := cs1
  obtain ⟨c1_0, c1_1, c1_2, c1_3, c1_4, c1_5, c1_6, c1_7, c1_8, c1_9, c1_10, c1_11, c1_12, c1_13, c1_14, c1_15, rfl⟩ := list_16 (show l1.length = 16 from hz1.trans (by kernel_rfl))
  have k1 := h1
  have lt1 : ∀ x ∈ p1, x.block < W.heap.size := by obtain ⟨m, hm⟩ := k1; exact DataW.trod_lt m _ _ _ hm
  obtain ⟨fu1, hf1⟩ := h1
  obtain ⟨xss1, ns1, _, _, _, hls1, hgs1⟩ := DataW.trod_struct Try.underlying27 (show DataW.trod enc Try.prog W 0 (fun _ => true) true fu1 27 [c1_0, c1_1, c1_2, c1_3, c1_4, c1_5, c1_6, c1_7, c1_8, c1_9, c1_10, c1_11, c1_12, c1_13, c1_14, c1_15] = some _ from hf1)
  have es1_0 := hgs1 0 _ rfl
  obtain ⟨yes1_0, zes1_0⟩ : ∃ y, xss1[0]? = some y := ⟨_, List.getElem?_eq_getElem (by rw [hls1]; decide)⟩
  replace es1_0 : DataW.trod enc Try.prog W 0 (fun _ => true) true ns1 5 (List.take (Try.prog.cellsOf 5) (List.drop 0 _)) = xss1[0]? := es1_0
  rw [zes1_0, show Try.prog.cellsOf 5 = 1 from by kernel_rfl] at es1_0
  replace es1_0 : DataW.trod enc Try.prog W 0 (fun _ => true) true ns1 5 [c1_0] = some yes1_0 := es1_0
  obtain ⟨a1_0, ha_, _, w1_0⟩ := DataW.trod_int Try.underlying5 es1_0
  obtain rfl : c1_0 = .int .u8 a1_0 := by simpa using ha_
  have es1_1 := hgs1 1 _ rfl
  obtain ⟨yes1_1, zes1_1⟩ : ∃ y, xss1[1]? = some y := ⟨_, List.getElem?_eq_getElem (by rw [hls1]; decide)⟩
  replace es1_1 : DataW.trod enc Try.prog W 0 (fun _ => true) true ns1 3 (List.take (Try.prog.cellsOf 3) (List.drop 1 _)) = xss1[1]? := es1_1
  rw [zes1_1, show Try.prog.cellsOf 3 = 1 from by kernel_rfl] at es1_1
  replace es1_1 : DataW.trod enc Try.prog W 0 (fun _ => true) true ns1 3 [c1_1] = some yes1_1 := es1_1
  obtain ⟨a1_1, ha_, _, w1_1⟩ := DataW.trod_int Try.underlying3 es1_1
  obtain rfl : c1_1 = .int .i64 a1_1 := by simpa using ha_
  have es1_2 := hgs1 2 _ rfl
  obtain ⟨yes1_2, zes1_2⟩ : ∃ y, xss1[2]? = some y := ⟨_, List.getElem?_eq_getElem (by rw [hls1]; decide)⟩
  replace es1_2 : DataW.trod enc Try.prog W 0 (fun _ => true) true ns1 3 (List.take (Try.prog.cellsOf 3) (List.drop 2 _)) = xss1[2]? := es1_2
  rw [zes1_2, show Try.prog.cellsOf 3 = 1 from by kernel_rfl] at es1_2
  replace es1_2 : DataW.trod enc Try.prog W 0 (fun _ => true) true ns1 3 [c1_2] = some yes1_2 := es1_2
  obtain ⟨a1_2, ha_, _, w1_2⟩ := DataW.trod_int Try.underlying3 es1_2
  obtain rfl : c1_2 = .int .i64 a1_2 := by simpa using ha_
  have es1_3 := hgs1 3 _ rfl
  obtain ⟨yes1_3, zes1_3⟩ : ∃ y, xss1[3]? = some y := ⟨_, List.getElem?_eq_getElem (by rw [hls1]; decide)⟩
  replace es1_3 : DataW.trod enc Try.prog W 0 (fun _ => true) true ns1 3 (List.take (Try.prog.cellsOf 3) (List.drop 3 _)) = xss1[3]? := es1_3
  rw [zes1_3, show Try.prog.cellsOf 3 = 1 from by kernel_rfl] at es1_3
  replace es1_3 : DataW.trod enc Try.prog W 0 (fun _ => true) true ns1 3 [c1_3] = some yes1_3 := es1_3
  obtain ⟨a1_3, ha_, _, w1_3⟩ := DataW.trod_int Try.underlying3 es1_3
  obtain rfl : c1_3 = .int .i64 a1_3 := by simpa using ha_
  have es1_4 := hgs1 4 _ rfl
  obtain ⟨yes1_4, zes1_4⟩ : ∃ y, xss1[4]? = some y := ⟨_, List.getElem?_eq_getElem (by rw [hls1]; decide)⟩
  replace es1_4 : DataW.trod enc Try.prog W 0 (fun _ => true) true ns1 23 (List.take (Try.prog.cellsOf 23) (List.drop 4 _)) = xss1[4]? := es1_4
  rw [zes1_4, show Try.prog.cellsOf 23 = 6 from by kernel_rfl] at es1_4
  replace es1_4 : DataW.trod enc Try.prog W 0 (fun _ => true) true ns1 23 [c1_4, c1_5, c1_6, c1_7, c1_8, c1_9] = some yes1_4 := es1_4
  obtain ⟨xss1_4, ns1_4, _, _, _, hls1_4, hgs1_4⟩ := DataW.trod_struct Try.underlying23 (show DataW.trod enc Try.prog W 0 (fun _ => true) true ns1 23 [c1_4, c1_5, c1_6, c1_7, c1_8, c1_9] = some _ from es1_4)
  have es1_4_0 := hgs1_4 0 _ rfl
  obtain ⟨yes1_4_0, zes1_4_0⟩ : ∃ y, xss1_4[0]? = some y := ⟨_, List.getElem?_eq_getElem (by rw [hls1_4]; decide)⟩
  replace es1_4_0 : DataW.trod enc Try.prog W 0 (fun _ => true) true ns1_4 2 (List.take (Try.prog.cellsOf 2) (List.drop 0 _)) = xss1_4[0]? := es1_4_0
  rw [zes1_4_0, show Try.prog.cellsOf 2 = 1 from by kernel_rfl] at es1_4_0
  replace es1_4_0 : DataW.trod enc Try.prog W 0 (fun _ => true) true ns1_4 2 [c1_4] = some yes1_4_0 := es1_4_0
  obtain ⟨a1_4, ha_, _, w1_4⟩ := DataW.trod_int Try.underlying2 es1_4_0
  obtain rfl : c1_4 = .int .i64 a1_4 := by simpa using ha_
  have es1_4_1 := hgs1_4 1 _ rfl
  obtain ⟨yes1_4_1, zes1_4_1⟩ : ∃ y, xss1_4[1]? = some y := ⟨_, List.getElem?_eq_getElem (by rw [hls1_4]; decide)⟩
  replace es1_4_1 : DataW.trod enc Try.prog W 0 (fun _ => true) true ns1_4 5 (List.take (Try.prog.cellsOf 5) (List.drop 1 _)) = xss1_4[1]? := es1_4_1
  rw [zes1_4_1, show Try.prog.cellsOf 5 = 1 from by kernel_rfl] at es1_4_1
  replace es1_4_1 : DataW.trod enc Try.prog W 0 (fun _ => true) true ns1_4 5 [c1_5] = some yes1_4_1 := es1_4_1
  obtain ⟨a1_5, ha_, _, w1_5⟩ := DataW.trod_int Try.underlying5 es1_4_1
  obtain rfl : c1_5 = .int .u8 a1_5 := by simpa using ha_
  have es1_4_2 := hgs1_4 2 _ rfl
  obtain ⟨yes1_4_2, zes1_4_2⟩ : ∃ y, xss1_4[2]? = some y := ⟨_, List.getElem?_eq_getElem (by rw [hls1_4]; decide)⟩
  replace es1_4_2 : DataW.trod enc Try.prog W 0 (fun _ => true) true ns1_4 3 (List.take (Try.prog.cellsOf 3) (List.drop 2 _)) = xss1_4[2]? := es1_4_2
  rw [zes1_4_2, show Try.prog.cellsOf 3 = 1 from by kernel_rfl] at es1_4_2
  replace es1_4_2 : DataW.trod enc Try.prog W 0 (fun _ => true) true ns1_4 3 [c1_6] = some yes1_4_2 := es1_4_2
  obtain ⟨a1_6, ha_, _, w1_6⟩ := DataW.trod_int Try.underlying3 es1_4_2
  obtain rfl : c1_6 = .int .i64 a1_6 := by simpa using ha_
  have es1_4_3 := hgs1_4 3 _ rfl
  obtain ⟨yes1_4_3, zes1_4_3⟩ : ∃ y, xss1_4[3]? = some y := ⟨_, List.getElem?_eq_getElem (by rw [hls1_4]; decide)⟩
  replace es1_4_3 : DataW.trod enc Try.prog W 0 (fun _ => true) true ns1_4 3 (List.take (Try.prog.cellsOf 3) (List.drop 3 _)) = xss1_4[3]? := es1_4_3
  rw [zes1_4_3, show Try.prog.cellsOf 3 = 1 from by kernel_rfl] at es1_4_3
  replace es1_4_3 : DataW.trod enc Try.prog W 0 (fun _ => true) true ns1_4 3 [c1_7] = some yes1_4_3 := es1_4_3
  obtain ⟨a1_7, ha_, _, w1_7⟩ := DataW.trod_int Try.underlying3 es1_4_3
  obtain rfl : c1_7 = .int .i64 a1_7 := by simpa using ha_
  have es1_4_4 := hgs1_4 4 _ rfl
  obtain ⟨yes1_4_4, zes1_4_4⟩ : ∃ y, xss1_4[4]? = some y := ⟨_, List.getElem?_eq_getElem (by rw [hls1_4]; decide)⟩
  replace es1_4_4 : DataW.trod enc Try.prog W 0 (fun _ => true) true ns1_4 4 (List.take (Try.prog.cellsOf 4) (List.drop 4 _)) = xss1_4[4]? := es1_4_4
  rw [zes1_4_4, show Try.prog.cellsOf 4 = 1 from by kernel_rfl] at es1_4_4
  replace es1_4_4 : DataW.trod enc Try.prog W 0 (fun _ => true) true ns1_4 4 [c1_8] = some yes1_4_4 := es1_4_4
  obtain ⟨a1_8, ha_, _⟩ := DataW.trod_bool Try.underlying4 es1_4_4
  obtain rfl : c1_8 = .bool a1_8 := by simpa using ha_
  have es1_4_5 := hgs1_4 5 _ rfl
  obtain ⟨yes1_4_5, zes1_4_5⟩ : ∃ y, xss1_4[5]? = some y := ⟨_, List.getElem?_eq_getElem (by rw [hls1_4]; decide)⟩
  replace es1_4_5 : DataW.trod enc Try.prog W 0 (fun _ => true) true ns1_4 4 (List.take (Try.prog.cellsOf 4) (List.drop 5 _)) = xss1_4[5]? := es1_4_5
  rw [zes1_4_5, show Try.prog.cellsOf 4 = 1 from by kernel_rfl] at es1_4_5
  replace es1_4_5 : DataW.trod enc Try.prog W 0 (fun _ => true) true ns1_4 4 [c1_9] = some yes1_4_5 := es1_4_5
  obtain ⟨a1_9, ha_, _⟩ := DataW.trod_bool Try.underlying4 es1_4_5
  obtain rfl : c1_9 = .bool a1_9 := by simpa using ha_
  have es1_5 := hgs1 5 _ rfl
  obtain ⟨yes1_5, zes1_5⟩ : ∃ y, xss1[5]? = some y := ⟨_, List.getElem?_eq_getElem (by rw [hls1]; decide)⟩
  replace es1_5 : DataW.trod enc Try.prog W 0 (fun _ => true) true ns1 25 (List.take (Try.prog.cellsOf 25) (List.drop 10 _)) = xss1[5]? := es1_5
  rw [zes1_5, show Try.prog.cellsOf 25 = 6 from by kernel_rfl] at es1_5
  replace es1_5 : DataW.trod enc Try.prog W 0 (fun _ => true) true ns1 25 [c1_10, c1_11, c1_12, c1_13, c1_14, c1_15] = some yes1_5 := es1_5
  obtain ⟨xss1_5, ns1_5, _, _, _, hls1_5, hgs1_5⟩ := DataW.trod_struct Try.underlying25 (show DataW.trod enc Try.prog W 0 (fun _ => true) true ns1 25 [c1_10, c1_11, c1_12, c1_13, c1_14, c1_15] = some _ from es1_5)
  have es1_5_0 := hgs1_5 0 _ rfl
  obtain ⟨yes1_5_0, zes1_5_0⟩ : ∃ y, xss1_5[0]? = some y := ⟨_, List.getElem?_eq_getElem (by rw [hls1_5]; decide)⟩
  replace es1_5_0 : DataW.trod enc Try.prog W 0 (fun _ => true) true ns1_5 5 (List.take (Try.prog.cellsOf 5) (List.drop 0 _)) = xss1_5[0]? := es1_5_0
  rw [zes1_5_0, show Try.prog.cellsOf 5 = 1 from by kernel_rfl] at es1_5_0
  replace es1_5_0 : DataW.trod enc Try.prog W 0 (fun _ => true) true ns1_5 5 [c1_10] = some yes1_5_0 := es1_5_0
  obtain ⟨a1_10, ha_, _, w1_10⟩ := DataW.trod_int Try.underlying5 es1_5_0
  obtain rfl : c1_10 = .int .u8 a1_10 := by simpa using ha_
  have es1_5_1 := hgs1_5 1 _ rfl
  obtain ⟨yes1_5_1, zes1_5_1⟩ : ∃ y, xss1_5[1]? = some y := ⟨_, List.getElem?_eq_getElem (by rw [hls1_5]; decide)⟩
  replace es1_5_1 : DataW.trod enc Try.prog W 0 (fun _ => true) true ns1_5 3 (List.take (Try.prog.cellsOf 3) (List.drop 1 _)) = xss1_5[1]? := es1_5_1
  rw [zes1_5_1, show Try.prog.cellsOf 3 = 1 from by kernel_rfl] at es1_5_1
  replace es1_5_1 : DataW.trod enc Try.prog W 0 (fun _ => true) true ns1_5 3 [c1_11] = some yes1_5_1 := es1_5_1
  obtain ⟨a1_11, ha_, _, w1_11⟩ := DataW.trod_int Try.underlying3 es1_5_1
  obtain rfl : c1_11 = .int .i64 a1_11 := by simpa using ha_
  have es1_5_2 := hgs1_5 2 _ rfl
  obtain ⟨yes1_5_2, zes1_5_2⟩ : ∃ y, xss1_5[2]? = some y := ⟨_, List.getElem?_eq_getElem (by rw [hls1_5]; decide)⟩
  replace es1_5_2 : DataW.trod enc Try.prog W 0 (fun _ => true) true ns1_5 3 (List.take (Try.prog.cellsOf 3) (List.drop 2 _)) = xss1_5[2]? := es1_5_2
  rw [zes1_5_2, show Try.prog.cellsOf 3 = 1 from by kernel_rfl] at es1_5_2
  replace es1_5_2 : DataW.trod enc Try.prog W 0 (fun _ => true) true ns1_5 3 [c1_12] = some yes1_5_2 := es1_5_2
  obtain ⟨a1_12, ha_, _, w1_12⟩ := DataW.trod_int Try.underlying3 es1_5_2
  obtain rfl : c1_12 = .int .i64 a1_12 := by simpa using ha_
  have es1_5_3 := hgs1_5 3 _ rfl
  obtain ⟨yes1_5_3, zes1_5_3⟩ : ∃ y, xss1_5[3]? = some y := ⟨_, List.getElem?_eq_getElem (by rw [hls1_5]; decide)⟩
  replace es1_5_3 : DataW.trod enc Try.prog W 0 (fun _ => true) true ns1_5 3 (List.take (Try.prog.cellsOf 3) (List.drop 3 _)) = xss1_5[3]? := es1_5_3
  rw [zes1_5_3, show Try.prog.cellsOf 3 = 1 from by kernel_rfl] at es1_5_3
  replace es1_5_3 : DataW.trod enc Try.prog W 0 (fun _ => true) true ns1_5 3 [c1_13] = some yes1_5_3 := es1_5_3
  obtain ⟨a1_13, ha_, _, w1_13⟩ := DataW.trod_int Try.underlying3 es1_5_3
  obtain rfl : c1_13 = .int .i64 a1_13 := by simpa using ha_
  have es1_5_4 := hgs1_5 4 _ rfl
  obtain ⟨yes1_5_4, zes1_5_4⟩ : ∃ y, xss1_5[4]? = some y := ⟨_, List.getElem?_eq_getElem (by rw [hls1_5]; decide)⟩
  replace es1_5_4 : DataW.trod enc Try.prog W 0 (fun _ => true) true ns1_5 2 (List.take (Try.prog.cellsOf 2) (List.drop 4 _)) = xss1_5[4]? := es1_5_4
  rw [zes1_5_4, show Try.prog.cellsOf 2 = 1 from by kernel_rfl] at es1_5_4
  replace es1_5_4 : DataW.trod enc Try.prog W 0 (fun _ => true) true ns1_5 2 [c1_14] = some yes1_5_4 := es1_5_4
  obtain ⟨a1_14, ha_, _, w1_14⟩ := DataW.trod_int Try.underlying2 es1_5_4
  obtain rfl : c1_14 = .int .i64 a1_14 := by simpa using ha_
  have es1_5_5 := hgs1_5 5 _ rfl
  obtain ⟨yes1_5_5, zes1_5_5⟩ : ∃ y, xss1_5[5]? = some y := ⟨_, List.getElem?_eq_getElem (by rw [hls1_5]; decide)⟩
  replace es1_5_5 : DataW.trod enc Try.prog W 0 (fun _ => true) true ns1_5 5 (List.take (Try.prog.cellsOf 5) (List.drop 5 _)) = xss1_5[5]? := es1_5_5
  rw [zes1_5_5, show Try.prog.cellsOf 5 = 1 from by kernel_rfl] at es1_5_5
  replace es1_5_5 : DataW.trod enc Try.prog W 0 (fun _ => true) true ns1_5 5 [c1_15] = some yes1_5_5 := es1_5_5
  obtain ⟨a1_15, ha_, _, w1_15⟩ := DataW.trod_int Try.underlying5 es1_5_5
  obtain rfl : c1_15 = .int .u8 a1_15 := by simpa using ha_
  obtain ⟨a2, rfl, rfl, rfl, w2⟩ := open_int Try.underlying5 (hval 2 5 v2 rfl rfl) h2
  obtain ⟨a3, rfl, rfl, rfl, w3⟩ := open_int Try.underlying5 (hval 3 5 v3 rfl rfl) h3
  obtain ⟨a4, rfl, rfl, rfl, w4⟩ := open_int Try.underlying5 (hval 4 5 v4 rfl rfl) h4
  clear hA0 hval0 hsz0 hsz
  refine (oreads_any a1_0 a1_1 a1_2 a1_3 a1_4 a1_5 a1_6 a1_7 a1_8 a1_9 a1_10 a1_11 a1_12 a1_13 a1_14 a1_15 a2 a3 a4 a0 len0 cap0 z0 W w1_0 w1_5 w1_10 w1_15 w2 w3 w4 w0).mono fun e W' ⟨he, bel⟩ => ?_
  subst he
  exact ⟨_, rfl, _, _, _, [], _, [], hW', trodAll_mk1 (shut_bool Try.underlying4 _), (trodAll_cons_mk (Below.trod laidOut (by kernel_rfl) (of_decide_eq_true (by kernel_rfl)) k0 bel lt0) (trodAll_cons_mk (Below.trod laidOut (by kernel_rfl) (of_decide_eq_true (by kernel_rfl)) k1 bel lt1) (trodAll_cons_mk (shut_int Try.underlying5 w2) (trodAll_cons_mk (shut_int Try.underlying5 w3) (trodAll_cons_mk (shut_int Try.underlying5 w4) trodAll_mk0))))), rfl, bel.frame _, fun h => by cases h⟩
theorem over : Rows.orderReadsRow.holds Try.pinned (OpenSpec.ofChange Rows.orderReadsSpec) :=
  OpenClaim.holds_of_wide 8 Try.f8 rfl rfl rfl rfl rfl rfl rfl ⟨rfl, rfl, rfl, rfl, rfl⟩ rfl rfl rfl rfl rfl (by kernel_rfl) Try.func8 (by kernel_rfl)
    (of_decide_eq_true (by kernel_rfl)) (by unfold Func.isWrapper; first | (rw [if_pos (by decide +kernel)]; kernel_rfl) | (rw [if_neg (by decide +kernel)]; exact ⟨rfl, rfl⟩))
    (fun os started H enc _ => lifted os started H enc)
theorem proved : Rows.OrderReadsSaid := over
#print axioms proved
end Go.Proofs.Ytlihgjonmliodaa.orderReads
namespace Go.Proofs.Ytlihgjonmliodaa
/-- The row, under a short name, for the claim. -/
theorem orderReads_holds : Rows.OrderReadsSaid := orderReads.proved
end Go.Proofs.Ytlihgjonmliodaa
