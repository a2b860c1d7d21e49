/- The row of StoreNil: it answers true for every input. -/
import Derived.Test.YtjfckbdeadnfhaaRows
import Derived.Test.YtjfckbdeadnfhaaStoreE
import Derived.Test.YtjfckbdeadnfhaaWSized
import Derived.WalkKit
import Derived.ProofKit
import Derived.OpenShut
import Derived.ShutString
import Derived.ChangeOld
import Derived.Below
import Derived.SizedLaws
namespace Go.Proofs.Ytjfckbdeadnfhaa.storeNil
open Go.ChangeShapes Go.WideShapes Go.ChangeAt Go.RowKit
open Go.ChangeMaps (open_string shut_string)
set_option linter.unusedVariables false
theorem own : ownKnob Try.prog.godebug = none := by kernel_rfl
theorem laidOut : laidOutB Try.prog = true := by kernel_rfl
theorem list_6 {α : Type} {l : List α} (h : l.length = 6) : ∃ x0 x1 x2 x3 x4 x5, l = [x0, x1, x2, x3, x4, x5] := by
  match l, h with
  | [x0, x1, x2, x3, x4, x5], _ => exact ⟨x0, x1, x2, x3, x4, x5, rfl⟩
set_option maxRecDepth 100000 in
theorem lifted (os : Os) (started : os.Started) (H : Type) (enc : TypeId × Value → H) :
    ReturnsInHanded {} Try.checked os 5 .any (Rows.storeNilSpec.pre6 enc Try.prog Try.f5 Rows.storeNilRow.domain false) (Rows.storeNilSpec.post enc Try.prog Try.f5 false true false false) := by
  refine returnsInHanded_of_change_sized (C := Try.checked) own started (by kernel_rfl) Try.func5
    (ChangeSpec.witness6 (enc := enc) (C := Try.checked) false ⟨#[], #[.agg #[.int .u8 0, .int .i64 0, .int .i64 0, .int .i64 0, .int .i64 0, .int .u8 0], .int .u8 0], []⟩ 8 (by kernel_rfl) (by kernel_rfl) (by kernel_rfl) (by kernel_rfl)) ?_
  intro W base args ds gs before hval0 hW hcnd hsz0 _
  have hsz : (DataW.weightsEach Try.prog (Try.f5.params.toList ++ Rows.storeNilSpec.plain.varTypes Try.prog) (ds ++ gs)).all (· ≤ reachBytes) = true := hsz0
  have hval : ∀ (j : Nat) t v, Try.f5.params[j]? = some t → args[j]? = some v → Value.okWide Try.prog W .any base t v := hval0
  have hW' := hW
  obtain ⟨p, q, hA0, hV, rfl, hfz, hnd⟩ := hW
  have hA : DataW.TrodAll enc Try.prog W 0 (fun _ => true) true Try.f5.params.toList args.toList ds p := hA0
  rw [Try.params5] at hA hval hsz
  obtain ⟨v0, vs0, d0, ds0, p0, q0, hargs, rfl, rfl, h0, r0⟩ := trodAll_cons hA
  obtain ⟨v1, vs1, d1, ds1, p1, q1, rfl, rfl, rfl, h1, r1⟩ := trodAll_cons r0
  obtain ⟨rfl, rfl, rfl⟩ := trodAll_nil r1
  obtain rfl : args = #[v0, v1] := by cases args; simp_all
  obtain ⟨rfl, rfl⟩ := trodVars_none hV
  obtain ⟨cs0, rfl, hz0⟩ := okWide_struct Try.underlying27 (hval 0 27 v0 rfl rfl)
  obtain ⟨l0⟩ := cs0
  obtain ⟨c0_0, c0_1, c0_2, c0_3, c0_4, c0_5, rfl⟩ := list_6 (show l0.length = 6 from hz0.trans (by kernel_rfl))
  have k0 := h0
  have lt0 : ∀ x ∈ p0, x.block < W.heap.size := by obtain ⟨m, hm⟩ := k0; exact DataW.trod_lt m _ _ _ hm
  obtain ⟨fu0, hf0⟩ := h0
  obtain ⟨xss0, ns0, _, _, _, hls0, hgs0⟩ := DataW.trod_struct Try.underlying27 (show DataW.trod enc Try.prog W 0 (fun _ => true) true fu0 27 [c0_0, c0_1, c0_2, c0_3, c0_4, c0_5] = some _ from hf0)
  have es0_0 := hgs0 0 _ rfl
  obtain ⟨yes0_0, zes0_0⟩ : ∃ y, xss0[0]? = some y := ⟨_, List.getElem?_eq_getElem (by rw [hls0]; decide)⟩
  replace es0_0 : DataW.trod enc Try.prog W 0 (fun _ => true) true ns0 5 (List.take (Try.prog.cellsOf 5) (List.drop 0 _)) = xss0[0]? := es0_0
  rw [zes0_0, show Try.prog.cellsOf 5 = 1 from by kernel_rfl] at es0_0
  replace es0_0 : DataW.trod enc Try.prog W 0 (fun _ => true) true ns0 5 [c0_0] = some yes0_0 := es0_0
  obtain ⟨a0_0, ha_, _, w0_0⟩ := DataW.trod_int Try.underlying5 es0_0
  obtain rfl : c0_0 = .int .u8 a0_0 := by simpa using ha_
  have es0_1 := hgs0 1 _ rfl
  obtain ⟨yes0_1, zes0_1⟩ : ∃ y, xss0[1]? = some y := ⟨_, List.getElem?_eq_getElem (by rw [hls0]; decide)⟩
  replace es0_1 : DataW.trod enc Try.prog W 0 (fun _ => true) true ns0 3 (List.take (Try.prog.cellsOf 3) (List.drop 1 _)) = xss0[1]? := es0_1
  rw [zes0_1, show Try.prog.cellsOf 3 = 1 from by kernel_rfl] at es0_1
  replace es0_1 : DataW.trod enc Try.prog W 0 (fun _ => true) true ns0 3 [c0_1] = some yes0_1 := es0_1
  obtain ⟨a0_1, ha_, _, w0_1⟩ := DataW.trod_int Try.underlying3 es0_1
  obtain rfl : c0_1 = .int .i64 a0_1 := by simpa using ha_
  have es0_2 := hgs0 2 _ rfl
  obtain ⟨yes0_2, zes0_2⟩ : ∃ y, xss0[2]? = some y := ⟨_, List.getElem?_eq_getElem (by rw [hls0]; decide)⟩
  replace es0_2 : DataW.trod enc Try.prog W 0 (fun _ => true) true ns0 3 (List.take (Try.prog.cellsOf 3) (List.drop 2 _)) = xss0[2]? := es0_2
  rw [zes0_2, show Try.prog.cellsOf 3 = 1 from by kernel_rfl] at es0_2
  replace es0_2 : DataW.trod enc Try.prog W 0 (fun _ => true) true ns0 3 [c0_2] = some yes0_2 := es0_2
  obtain ⟨a0_2, ha_, _, w0_2⟩ := DataW.trod_int Try.underlying3 es0_2
  obtain rfl : c0_2 = .int .i64 a0_2 := by simpa using ha_
  have es0_3 := hgs0 3 _ rfl
  obtain ⟨yes0_3, zes0_3⟩ : ∃ y, xss0[3]? = some y := ⟨_, List.getElem?_eq_getElem (by rw [hls0]; decide)⟩
  replace es0_3 : DataW.trod enc Try.prog W 0 (fun _ => true) true ns0 3 (List.take (Try.prog.cellsOf 3) (List.drop 3 _)) = xss0[3]? := es0_3
  rw [zes0_3, show Try.prog.cellsOf 3 = 1 from by kernel_rfl] at es0_3
  replace es0_3 : DataW.trod enc Try.prog W 0 (fun _ => true) true ns0 3 [c0_3] = some yes0_3 := es0_3
  obtain ⟨a0_3, ha_, _, w0_3⟩ := DataW.trod_int Try.underlying3 es0_3
  obtain rfl : c0_3 = .int .i64 a0_3 := by simpa using ha_
  have es0_4 := hgs0 4 _ rfl
  obtain ⟨yes0_4, zes0_4⟩ : ∃ y, xss0[4]? = some y := ⟨_, List.getElem?_eq_getElem (by rw [hls0]; decide)⟩
  replace es0_4 : DataW.trod enc Try.prog W 0 (fun _ => true) true ns0 2 (List.take (Try.prog.cellsOf 2) (List.drop 4 _)) = xss0[4]? := es0_4
  rw [zes0_4, show Try.prog.cellsOf 2 = 1 from by kernel_rfl] at es0_4
  replace es0_4 : DataW.trod enc Try.prog W 0 (fun _ => true) true ns0 2 [c0_4] = some yes0_4 := es0_4
  obtain ⟨a0_4, ha_, _, w0_4⟩ := DataW.trod_int Try.underlying2 es0_4
  obtain rfl : c0_4 = .int .i64 a0_4 := by simpa using ha_
  have es0_5 := hgs0 5 _ rfl
  obtain ⟨yes0_5, zes0_5⟩ : ∃ y, xss0[5]? = some y := ⟨_, List.getElem?_eq_getElem (by rw [hls0]; decide)⟩
  replace es0_5 : DataW.trod enc Try.prog W 0 (fun _ => true) true ns0 5 (List.take (Try.prog.cellsOf 5) (List.drop 5 _)) = xss0[5]? := es0_5
  rw [zes0_5, show Try.prog.cellsOf 5 = 1 from by kernel_rfl] at es0_5
  replace es0_5 : DataW.trod enc Try.prog W 0 (fun _ => true) true ns0 5 [c0_5] = some yes0_5 := es0_5
  obtain ⟨a0_5, ha_, _, w0_5⟩ := DataW.trod_int Try.underlying5 es0_5
  obtain rfl : c0_5 = .int .u8 a0_5 := by simpa using ha_
  obtain ⟨a1, rfl, rfl, rfl, w1⟩ := open_int Try.underlying5 (hval 1 5 v1 rfl rfl) h1
  clear hA0 hval0 hsz0 hsz
  refine (nil_any a0_0 a0_1 a0_2 a0_3 a0_4 a0_5 a1 W w0_1 w0_2).mono fun e W' ⟨he, bel⟩ => ?_
  subst he
  exact ⟨_, rfl, _, _, _, [], _, [], hW', trodAll_mk1 (shut_bool Try.underlying4 _), (trodAll_cons_mk (Below.trod laidOut (by kernel_rfl) (of_decide_eq_true (by kernel_rfl)) k0 bel lt0) (trodAll_cons_mk (shut_int Try.underlying5 w1) trodAll_mk0)), rfl, bel.frame _, fun h => by cases h⟩
theorem over : Rows.storeNilRow.holds Try.pinned (OpenSpec.ofChange Rows.storeNilSpec) :=
  OpenClaim.holds_of_wide 5 Try.f5 rfl rfl rfl rfl rfl rfl rfl ⟨rfl, rfl, rfl, rfl, rfl⟩ rfl rfl rfl rfl rfl (by kernel_rfl) Try.func5 (by kernel_rfl)
    (of_decide_eq_true (by kernel_rfl)) (by unfold Func.isWrapper; first | (rw [if_pos (by decide +kernel)]; kernel_rfl) | (rw [if_neg (by decide +kernel)]; exact ⟨rfl, rfl⟩))
    (fun os started H enc _ => lifted os started H enc)
theorem proved : Rows.StoreNilSaid := over
#print axioms proved
end Go.Proofs.Ytjfckbdeadnfhaa.storeNil
namespace Go.Proofs.Ytjfckbdeadnfhaa
/-- The row, under a short name, for the claim. -/
theorem storeNil_holds : Rows.StoreNilSaid := storeNil.proved
end Go.Proofs.Ytjfckbdeadnfhaa
