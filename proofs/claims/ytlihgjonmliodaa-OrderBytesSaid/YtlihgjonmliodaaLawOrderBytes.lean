/- The row of OrderBytes: it answers true for every input. -/
import Derived.Test.YtlihgjonmliodaaRows
import Derived.Test.YtlihgjonmliodaaOBytes
import Derived.WalkKit
import Derived.ProofKit
import Derived.OpenShut
import Derived.ShutString
import Derived.ChangeOld
import Derived.Below
import Derived.SizedLaws
namespace Go.Proofs.Ytlihgjonmliodaa.orderBytes
open Go.ChangeShapes Go.WideShapes Go.ChangeAt Go.RowKit
open Go.ChangeMaps (open_string shut_string)
set_option linter.unusedVariables false
theorem own : ownKnob Try.prog.godebug = none := by kernel_rfl
theorem laidOut : laidOutB Try.prog = true := by kernel_rfl
theorem list_16 {α : Type} {l : List α} (h : l.length = 16) : ∃ x0 x1 x2 x3 x4 x5 x6 x7 x8 x9 x10 x11 x12 x13 x14 x15, l = [x0, x1, x2, x3, x4, x5, x6, x7, x8, x9, x10, x11, x12, x13, x14, x15] := by
  match l, h with
  | [x0, x1, x2, x3, x4, x5, x6, x7, x8, x9, x10, x11, x12, x13, x14, x15], _ => exact ⟨x0, x1, x2, x3, x4, x5, x6, x7, x8, x9, x10, x11, x12, x13, x14, x15, rfl⟩
set_option maxRecDepth 100000 in
theorem lifted (os : Os) (started : os.Started) (H : Type) (enc : TypeId × Value → H) :
    ReturnsInHanded {} Try.checked os 7 .any (Rows.orderBytesSpec.pre6 enc Try.prog Try.f7 Rows.orderBytesRow.domain false) (Rows.orderBytesSpec.post enc Try.prog Try.f7 false true false false) := by
  refine returnsInHanded_of_change_sized (C := Try.checked) own started (by kernel_rfl) Try.func7
    (ChangeSpec.witness6 (enc := enc) (C := Try.checked) false ⟨#[], #[.agg #[.int .u8 0, .int .i64 0, .int .i64 0, .int .i64 0, .int .i64 0, .int .u8 0, .int .i64 0, .int .i64 0, .bool false, .bool false, .int .u8 0, .int .i64 0, .int .i64 0, .int .i64 0, .int .i64 0, .int .u8 0]], []⟩ 8 (by kernel_rfl) (by kernel_rfl) (by kernel_rfl) (by kernel_rfl)) ?_
  intro W base args ds gs before hval0 hW hcnd hsz0 _
  have hsz : (DataW.weightsEach Try.prog (Try.f7.params.toList ++ Rows.orderBytesSpec.plain.varTypes Try.prog) (ds ++ gs)).all (· ≤ reachBytes) = true := hsz0
  have hval : ∀ (j : Nat) t v, Try.f7.params[j]? = some t → args[j]? = some v → Value.okWide Try.prog W .any base t v := hval0
  have hW' := hW
  obtain ⟨p, q, hA0, hV, rfl, hfz, hnd⟩ := hW
  have hA : DataW.TrodAll enc Try.prog W 0 (fun _ => true) true Try.f7.params.toList args.toList ds p := hA0
  rw [Try.params7] at hA hval hsz
  obtain ⟨v0, vs0, d0, ds0, p0, q0, hargs, rfl, rfl, h0, r0⟩ := trodAll_cons hA
  obtain ⟨rfl, rfl, rfl⟩ := trodAll_nil r0
  obtain rfl : args = #[v0] := by cases args; simp_all
  obtain ⟨rfl, rfl⟩ := trodVars_none hV
  obtain ⟨cs0, rfl, hz0⟩ := okWide_struct Try.underlying27 (hval 0 27 v0 rfl rfl)
  obtain ⟨l0⟩ := cs0
  obtain ⟨c0_0, c0_1, c0_2, c0_3, c0_4, c0_5, c0_6, c0_7, c0_8, c0_9, c0_10, c0_11, c0_12, c0_13, c0_14, c0_15, rfl⟩ := list_16 (show l0.length = 16 from hz0.trans (by kernel_rfl))
  have k0 := h0
  have lt0 : ∀ x ∈ p0, x.block < W.heap.size := by obtain ⟨m, hm⟩ := k0; exact DataW.trod_lt m _ _ _ hm
  obtain ⟨fu0, hf0⟩ := h0
  obtain ⟨xss0, ns0, _, _, _, hls0, hgs0⟩ := DataW.trod_struct Try.underlying27 (show DataW.trod enc Try.prog W 0 (fun _ => true) true fu0 27 [c0_0, c0_1, c0_2, c0_3, c0_4, c0_5, c0_6, c0_7, c0_8, c0_9, c0_10, c0_11, c0_12, c0_13, c0_14, c0_15] = some _ from hf0)
  have es0_0 := hgs0 0 _ rfl
  obtain ⟨yes0_0, zes0_0⟩ : ∃ y, xss0[0]? = some y := ⟨_, List.getElem?_eq_getElem (by rw [hls0]; decide)⟩
  replace es0_0 : DataW.trod enc Try.prog W 0 (fun _ => true) true ns0 5 (List.take (Try.prog.cellsOf 5) (List.drop 0 _)) = xss0[0]? := es0_0
  rw [zes0_0, show Try.prog.cellsOf 5 = 1 from by kernel_rfl] at es0_0
  replace es0_0 : DataW.trod enc Try.prog W 0 (fun _ => true) true ns0 5 [c0_0] = some yes0_0 := es0_0
  obtain ⟨a0_0, ha_, _, w0_0⟩ := DataW.trod_int Try.underlying5 es0_0
  obtain rfl : c0_0 = .int .u8 a0_0 := by simpa using ha_
  have es0_1 := hgs0 1 _ rfl
  obtain ⟨yes0_1, zes0_1⟩ : ∃ y, xss0[1]? = some y := ⟨_, List.getElem?_eq_getElem (by rw [hls0]; decide)⟩
  replace es0_1 : DataW.trod enc Try.prog W 0 (fun _ => true) true ns0 3 (List.take (Try.prog.cellsOf 3) (List.drop 1 _)) = xss0[1]? := es0_1
  rw [zes0_1, show Try.prog.cellsOf 3 = 1 from by kernel_rfl] at es0_1
  replace es0_1 : DataW.trod enc Try.prog W 0 (fun _ => true) true ns0 3 [c0_1] = some yes0_1 := es0_1
  obtain ⟨a0_1, ha_, _, w0_1⟩ := DataW.trod_int Try.underlying3 es0_1
  obtain rfl : c0_1 = .int .i64 a0_1 := by simpa using ha_
  have es0_2 := hgs0 2 _ rfl
  obtain ⟨yes0_2, zes0_2⟩ : ∃ y, xss0[2]? = some y := ⟨_, List.getElem?_eq_getElem (by rw [hls0]; decide)⟩
  replace es0_2 : DataW.trod enc Try.prog W 0 (fun _ => true) true ns0 3 (List.take (Try.prog.cellsOf 3) (List.drop 2 _)) = xss0[2]? := es0_2
  rw [zes0_2, show Try.prog.cellsOf 3 = 1 from by kernel_rfl] at es0_2
  replace es0_2 : DataW.trod enc Try.prog W 0 (fun _ => true) true ns0 3 [c0_2] = some yes0_2 := es0_2
  obtain ⟨a0_2, ha_, _, w0_2⟩ := DataW.trod_int Try.underlying3 es0_2
  obtain rfl : c0_2 = .int .i64 a0_2 := by simpa using ha_
  have es0_3 := hgs0 3 _ rfl
  obtain ⟨yes0_3, zes0_3⟩ : ∃ y, xss0[3]? = some y := ⟨_, List.getElem?_eq_getElem (by rw [hls0]; decide)⟩
  replace es0_3 : DataW.trod enc Try.prog W 0 (fun _ => true) true ns0 3 (List.take (Try.prog.cellsOf 3) (List.drop 3 _)) = xss0[3]? := es0_3
  rw [zes0_3, show Try.prog.cellsOf 3 = 1 from by kernel_rfl] at es0_3
  replace es0_3 : DataW.trod enc Try.prog W 0 (fun _ => true) true ns0 3 [c0_3] = some yes0_3 := es0_3
  obtain ⟨a0_3, ha_, _, w0_3⟩ := DataW.trod_int Try.underlying3 es0_3
  obtain rfl : c0_3 = .int .i64 a0_3 := by simpa using ha_
  have es0_4 := hgs0 4 _ rfl
  obtain ⟨yes0_4, zes0_4⟩ : ∃ y, xss0[4]? = some y := ⟨_, List.getElem?_eq_getElem (by rw [hls0]; decide)⟩
  replace es0_4 : DataW.trod enc Try.prog W 0 (fun _ => true) true ns0 23 (List.take (Try.prog.cellsOf 23) (List.drop 4 _)) = xss0[4]? := es0_4
  rw [zes0_4, show Try.prog.cellsOf 23 = 6 from by kernel_rfl] at es0_4
  replace es0_4 : DataW.trod enc Try.prog W 0 (fun _ => true) true ns0 23 [c0_4, c0_5, c0_6, c0_7, c0_8, c0_9] = some yes0_4 := es0_4
  obtain ⟨xss0_4, ns0_4, _, _, _, hls0_4, hgs0_4⟩ := DataW.trod_struct Try.underlying23 (show DataW.trod enc Try.prog W 0 (fun _ => true) true ns0 23 [c0_4, c0_5, c0_6, c0_7, c0_8, c0_9] = some _ from es0_4)
  have es0_4_0 := hgs0_4 0 _ rfl
  obtain ⟨yes0_4_0, zes0_4_0⟩ : ∃ y, xss0_4[0]? = some y := ⟨_, List.getElem?_eq_getElem (by rw [hls0_4]; decide)⟩
  replace es0_4_0 : DataW.trod enc Try.prog W 0 (fun _ => true) true ns0_4 2 (List.take (Try.prog.cellsOf 2) (List.drop 0 _)) = xss0_4[0]? := es0_4_0
  rw [zes0_4_0, show Try.prog.cellsOf 2 = 1 from by kernel_rfl] at es0_4_0
  replace es0_4_0 : DataW.trod enc Try.prog W 0 (fun _ => true) true ns0_4 2 [c0_4] = some yes0_4_0 := es0_4_0
  obtain ⟨a0_4, ha_, _, w0_4⟩ := DataW.trod_int Try.underlying2 es0_4_0
  obtain rfl : c0_4 = .int .i64 a0_4 := by simpa using ha_
  have es0_4_1 := hgs0_4 1 _ rfl
  obtain ⟨yes0_4_1, zes0_4_1⟩ : ∃ y, xss0_4[1]? = some y := ⟨_, List.getElem?_eq_getElem (by rw [hls0_4]; decide)⟩
  replace es0_4_1 : DataW.trod enc Try.prog W 0 (fun _ => true) true ns0_4 5 (List.take (Try.prog.cellsOf 5) (List.drop 1 _)) = xss0_4[1]? := es0_4_1
  rw [zes0_4_1, show Try.prog.cellsOf 5 = 1 from by kernel_rfl] at es0_4_1
  replace es0_4_1 : DataW.trod enc Try.prog W 0 (fun _ => true) true ns0_4 5 [c0_5] = some yes0_4_1 := es0_4_1
  obtain ⟨a0_5, ha_, _, w0_5⟩ := DataW.trod_int Try.underlying5 es0_4_1
  obtain rfl : c0_5 = .int .u8 a0_5 := by simpa using ha_
  have es0_4_2 := hgs0_4 2 _ rfl
  obtain ⟨yes0_4_2, zes0_4_2⟩ : ∃ y, xss0_4[2]? = some y := ⟨_, List.getElem?_eq_getElem (by rw [hls0_4]; decide)⟩
  replace es0_4_2 : DataW.trod enc Try.prog W 0 (fun _ => true) true ns0_4 3 (List.take (Try.prog.cellsOf 3) (List.drop 2 _)) = xss0_4[2]? := es0_4_2
  rw [zes0_4_2, show Try.prog.cellsOf 3 = 1 from by kernel_rfl] at es0_4_2
  replace es0_4_2 : DataW.trod enc Try.prog W 0 (fun _ => true) true ns0_4 3 [c0_6] = some yes0_4_2 := es0_4_2
  obtain ⟨a0_6, ha_, _, w0_6⟩ := DataW.trod_int Try.underlying3 es0_4_2
  obtain rfl : c0_6 = .int .i64 a0_6 := by simpa using ha_
  have es0_4_3 := hgs0_4 3 _ rfl
  obtain ⟨yes0_4_3, zes0_4_3⟩ : ∃ y, xss0_4[3]? = some y := ⟨_, List.getElem?_eq_getElem (by rw [hls0_4]; decide)⟩
  replace es0_4_3 : DataW.trod enc Try.prog W 0 (fun _ => true) true ns0_4 3 (List.take (Try.prog.cellsOf 3) (List.drop 3 _)) = xss0_4[3]? := es0_4_3
  rw [zes0_4_3, show Try.prog.cellsOf 3 = 1 from by kernel_rfl] at es0_4_3
  replace es0_4_3 : DataW.trod enc Try.prog W 0 (fun _ => true) true ns0_4 3 [c0_7] = some yes0_4_3 := es0_4_3
  obtain ⟨a0_7, ha_, _, w0_7⟩ := DataW.trod_int Try.underlying3 es0_4_3
  obtain rfl : c0_7 = .int .i64 a0_7 := by simpa using ha_
  have es0_4_4 := hgs0_4 4 _ rfl
  obtain ⟨yes0_4_4, zes0_4_4⟩ : ∃ y, xss0_4[4]? = some y := ⟨_, List.getElem?_eq_getElem (by rw [hls0_4]; decide)⟩
  replace es0_4_4 : DataW.trod enc Try.prog W 0 (fun _ => true) true ns0_4 4 (List.take (Try.prog.cellsOf 4) (List.drop 4 _)) = xss0_4[4]? := es0_4_4
  rw [zes0_4_4, show Try.prog.cellsOf 4 = 1 from by kernel_rfl] at es0_4_4
  replace es0_4_4 : DataW.trod enc Try.prog W 0 (fun _ => true) true ns0_4 4 [c0_8] = some yes0_4_4 := es0_4_4
  obtain ⟨a0_8, ha_, _⟩ := DataW.trod_bool Try.underlying4 es0_4_4
  obtain rfl : c0_8 = .bool a0_8 := by simpa using ha_
  have es0_4_5 := hgs0_4 5 _ rfl
  obtain ⟨yes0_4_5, zes0_4_5⟩ : ∃ y, xss0_4[5]? = some y := ⟨_, List.getElem?_eq_getElem (by rw [hls0_4]; decide)⟩
  replace es0_4_5 : DataW.trod enc Try.prog W 0 (fun _ => true) true ns0_4 4 (List.take (Try.prog.cellsOf 4) (List.drop 5 _)) = xss0_4[5]? := es0_4_5
  rw [zes0_4_5, show Try.prog.cellsOf 4 = 1 from by kernel_rfl] at es0_4_5
  replace es0_4_5 : DataW.trod enc Try.prog W 0 (fun _ => true) true ns0_4 4 [c0_9] = some yes0_4_5 := es0_4_5
  obtain ⟨a0_9, ha_, _⟩ := DataW.trod_bool Try.underlying4 es0_4_5
  obtain rfl : c0_9 = .bool a0_9 := by simpa using ha_
  have es0_5 := hgs0 5 _ rfl
  obtain ⟨yes0_5, zes0_5⟩ : ∃ y, xss0[5]? = some y := ⟨_, List.getElem?_eq_getElem (by rw [hls0]; decide)⟩
  replace es0_5 : DataW.trod enc Try.prog W 0 (fun _ => true) true ns0 25 (List.take (Try.prog.cellsOf 25) (List.drop 10 _)) = xss0[5]? := es0_5
  rw [zes0_5, show Try.prog.cellsOf 25 = 6 from by kernel_rfl] at es0_5
  replace es0_5 : DataW.trod enc Try.prog W 0 (fun _ => true) true ns0 25 [c0_10, c0_11, c0_12, c0_13, c0_14, c0_15] = some yes0_5 := es0_5
  obtain ⟨xss0_5, ns0_5, _, _, _, hls0_5, hgs0_5⟩ := DataW.trod_struct Try.underlying25 (show DataW.trod enc Try.prog W 0 (fun _ => true) true ns0 25 [c0_10, c0_11, c0_12, c0_13, c0_14, c0_15] = some _ from es0_5)
  have es0_5_0 := hgs0_5 0 _ rfl
  obtain ⟨yes0_5_0, zes0_5_0⟩ : ∃ y, xss0_5[0]? = some y := ⟨_, List.getElem?_eq_getElem (by rw [hls0_5]; decide)⟩
  replace es0_5_0 : DataW.trod enc Try.prog W 0 (fun _ => true) true ns0_5 5 (List.take (Try.prog.cellsOf 5) (List.drop 0 _)) = xss0_5[0]? := es0_5_0
  rw [zes0_5_0, show Try.prog.cellsOf 5 = 1 from by kernel_rfl] at es0_5_0
  replace es0_5_0 : DataW.trod enc Try.prog W 0 (fun _ => true) true ns0_5 5 [c0_10] = some yes0_5_0 := es0_5_0
  obtain ⟨a0_10, ha_, _, w0_10⟩ := DataW.trod_int Try.underlying5 es0_5_0
  obtain rfl : c0_10 = .int .u8 a0_10 := by simpa using ha_
  have es0_5_1 := hgs0_5 1 _ rfl
  obtain ⟨yes0_5_1, zes0_5_1⟩ : ∃ y, xss0_5[1]? = some y := ⟨_, List.getElem?_eq_getElem (by rw [hls0_5]; decide)⟩
  replace es0_5_1 : DataW.trod enc Try.prog W 0 (fun _ => true) true ns0_5 3 (List.take (Try.prog.cellsOf 3) (List.drop 1 _)) = xss0_5[1]? := es0_5_1
  rw [zes0_5_1, show Try.prog.cellsOf 3 = 1 from by kernel_rfl] at es0_5_1
  replace es0_5_1 : DataW.trod enc Try.prog W 0 (fun _ => true) true ns0_5 3 [c0_11] = some yes0_5_1 := es0_5_1
  obtain ⟨a0_11, ha_, _, w0_11⟩ := DataW.trod_int Try.underlying3 es0_5_1
  obtain rfl : c0_11 = .int .i64 a0_11 := by simpa using ha_
  have es0_5_2 := hgs0_5 2 _ rfl
  obtain ⟨yes0_5_2, zes0_5_2⟩ : ∃ y, xss0_5[2]? = some y := ⟨_, List.getElem?_eq_getElem (by rw [hls0_5]; decide)⟩
  replace es0_5_2 : DataW.trod enc Try.prog W 0 (fun _ => true) true ns0_5 3 (List.take (Try.prog.cellsOf 3) (List.drop 2 _)) = xss0_5[2]? := es0_5_2
  rw [zes0_5_2, show Try.prog.cellsOf 3 = 1 from by kernel_rfl] at es0_5_2
  replace es0_5_2 : DataW.trod enc Try.prog W 0 (fun _ => true) true ns0_5 3 [c0_12] = some yes0_5_2 := es0_5_2
  obtain ⟨a0_12, ha_, _, w0_12⟩ := DataW.trod_int Try.underlying3 es0_5_2
  obtain rfl : c0_12 = .int .i64 a0_12 := by simpa using ha_
  have es0_5_3 := hgs0_5 3 _ rfl
  obtain ⟨yes0_5_3, zes0_5_3⟩ : ∃ y, xss0_5[3]? = some y := ⟨_, List.getElem?_eq_getElem (by rw [hls0_5]; decide)⟩
  replace es0_5_3 : DataW.trod enc Try.prog W 0 (fun _ => true) true ns0_5 3 (List.take (Try.prog.cellsOf 3) (List.drop 3 _)) = xss0_5[3]? := es0_5_3
  rw [zes0_5_3, show Try.prog.cellsOf 3 = 1 from by kernel_rfl] at es0_5_3
  replace es0_5_3 : DataW.trod enc Try.prog W 0 (fun _ => true) true ns0_5 3 [c0_13] = some yes0_5_3 := es0_5_3
  obtain ⟨a0_13, ha_, _, w0_13⟩ := DataW.trod_int Try.underlying3 es0_5_3
  obtain rfl : c0_13 = .int .i64 a0_13 := by simpa using ha_
  have es0_5_4 := hgs0_5 4 _ rfl
  obtain ⟨yes0_5_4, zes0_5_4⟩ : ∃ y, xss0_5[4]? = some y := ⟨_, List.getElem?_eq_getElem (by rw [hls0_5]; decide)⟩
  replace es0_5_4 : DataW.trod enc Try.prog W 0 (fun _ => true) true ns0_5 2 (List.take (Try.prog.cellsOf 2) (List.drop 4 _)) = xss0_5[4]? := es0_5_4
  rw [zes0_5_4, show Try.prog.cellsOf 2 = 1 from by kernel_rfl] at es0_5_4
  replace es0_5_4 : DataW.trod enc Try.prog W 0 (fun _ => true) true ns0_5 2 [c0_14] = some yes0_5_4 := es0_5_4
  obtain ⟨a0_14, ha_, _, w0_14⟩ := DataW.trod_int Try.underlying2 es0_5_4
  obtain rfl : c0_14 = .int .i64 a0_14 := by simpa using ha_
  have es0_5_5 := hgs0_5 5 _ rfl
  obtain ⟨yes0_5_5, zes0_5_5⟩ : ∃ y, xss0_5[5]? = some y := ⟨_, List.getElem?_eq_getElem (by rw [hls0_5]; decide)⟩
  replace es0_5_5 : DataW.trod enc Try.prog W 0 (fun _ => true) true ns0_5 5 (List.take (Try.prog.cellsOf 5) (List.drop 5 _)) = xss0_5[5]? := es0_5_5
  rw [zes0_5_5, show Try.prog.cellsOf 5 = 1 from by kernel_rfl] at es0_5_5
  replace es0_5_5 : DataW.trod enc Try.prog W 0 (fun _ => true) true ns0_5 5 [c0_15] = some yes0_5_5 := es0_5_5
  obtain ⟨a0_15, ha_, _, w0_15⟩ := DataW.trod_int Try.underlying5 es0_5_5
  obtain rfl : c0_15 = .int .u8 a0_15 := by simpa using ha_
  clear hA0 hval0 hsz0 hsz
  refine (obytes_any a0_0 a0_1 a0_2 a0_3 a0_4 a0_5 a0_6 a0_7 a0_8 a0_9 a0_10 a0_11 a0_12 a0_13 a0_14 a0_15 W w0_0 w0_5 w0_10 w0_15).mono fun e W' ⟨he, bel⟩ => ?_
  subst he
  exact ⟨_, rfl, _, _, _, [], _, [], hW', trodAll_mk1 (shut_bool Try.underlying4 _), (trodAll_cons_mk (Below.trod laidOut (by kernel_rfl) (of_decide_eq_true (by kernel_rfl)) k0 bel lt0) trodAll_mk0), rfl, bel.frame _, fun h => by cases h⟩
theorem over : Rows.orderBytesRow.holds Try.pinned (OpenSpec.ofChange Rows.orderBytesSpec) :=
  OpenClaim.holds_of_wide 7 Try.f7 rfl rfl rfl rfl rfl rfl rfl ⟨rfl, rfl, rfl, rfl, rfl⟩ rfl rfl rfl rfl rfl (by kernel_rfl) Try.func7 (by kernel_rfl)
    (of_decide_eq_true (by kernel_rfl)) (by unfold Func.isWrapper; first | (rw [if_pos (by decide +kernel)]; kernel_rfl) | (rw [if_neg (by decide +kernel)]; exact ⟨rfl, rfl⟩))
    (fun os started H enc _ => lifted os started H enc)
theorem proved : Rows.OrderBytesSaid := over
#print axioms proved
end Go.Proofs.Ytlihgjonmliodaa.orderBytes
namespace Go.Proofs.Ytlihgjonmliodaa
/-- The row, under a short name, for the claim. -/
theorem orderBytes_holds : Rows.OrderBytesSaid := orderBytes.proved
end Go.Proofs.Ytlihgjonmliodaa
