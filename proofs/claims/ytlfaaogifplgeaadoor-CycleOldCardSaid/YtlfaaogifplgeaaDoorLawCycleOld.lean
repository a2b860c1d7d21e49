-- printed by this workplace: wip/patchprint.py over the kit's print
import Derived.Test.YtlfaaogifplgeaaDoorCards
import Derived.Test.YtlfaaogifplgeaaDoorTie
import Derived.Test.YtlfaaogifplgeaaDoorRows
import Derived.Test.YtlfaaogifplgeaaDoorPAx17
import Derived.Test.YtlfaaogifplgeaaDoorPureCycleOld
import Derived.WalkKit
import Derived.ProofKit
import Derived.OpenShut
import Derived.ShutString
import Derived.ChangeOld
import Derived.Below
import Derived.SizedLaws
import Derived.Deep.DeepHandedRow
import Derived.Lib.LaidTab
import Derived.Test.YtlfaaogifplgeaaDoorWSized
namespace Go.Proofs.YtlfaaogifplgeaaDoor.cycleOld
open Go.ChangeShapes Go.WideShapes Go.ChangeAt Go.RowKit
open Go.ChangeMaps (open_string shut_string)
set_option linter.unusedVariables false
theorem own : ownKnob Tryd.prog.godebug = none := by kernel_rfl
theorem laidOut : laidOutB Tryd.prog = true := by kernel_rfl
def IsRow (k : IntKind) (w : World) (a : Option Addr) (len cap : Nat) (zs : List Int) : Prop :=
  (a = none ∧ len = 0 ∧ cap = 0 ∧ zs = []) ∨
  ∃ x, a = some x ∧ len ≤ cap ∧ cap ≤ maxLen ∧ zs.length = cap ∧ (∀ i, i < zs.length → w.cell? (x.add i) = some (.int k (zs.getD i 0))) ∧ ∀ n ∈ zs, (Lit.int k n).wf = true
theorem list_6 {α : Type} {l : List α} (h : l.length = 6) : ∃ x0 x1 x2 x3 x4 x5, l = [x0, x1, x2, x3, x4, x5] := by
  match l, h with
  | [x0, x1, x2, x3, x4, x5], _ => exact ⟨x0, x1, x2, x3, x4, x5, rfl⟩
open Go.Proofs.YtlfaaogifplgeaaDoorW.PrintWords
theorem gTab : Tryd.prog.globalNamed "paybook/cycle.ladder" = some 0 := by kernel_rfl
theorem gTabType : (Tryd.prog.globals[0]?).map (·.type) = some 67 := by kernel_rfl
theorem cellsT : Tryd.prog.cellsOf 67 = 3 := by kernel_rfl
theorem cellsE : Tryd.prog.cellsOf 3 = 1 := by kernel_rfl
theorem table {W : World} (h : laidMetH Tryd.prog Rows.cycleOldRow.laid W) : Lib.TabIs Tryd.prog W "paybook/cycle.ladder" .i64 PA.gl0 :=
  Lib.tabIs_of_head (rest := []) gTab gTabType Tryd.underlying67 Tryd.underlying3 cellsE cellsT h
theorem glob {W : World} (h : laidMetH Tryd.prog Rows.cycleOldRow.laid W) : Kd.C (Kd.int .i64) W (some ⟨0, 0, none⟩) 3 PA.gl0 :=
  Kd.C_of_reads (d := (0 : Int)) (h1 := fun _ => rfl) ⟨rfl, by decide, fun _ => ⟨_, rfl, fun j hj => by rw [Go.Proofs.YtlfaaogifplgeaaDoorW.PrintWords.add_plain]; exact (table h).cell gTab j hj⟩⟩
noncomputable def laidWorld (os : Os) : World :=
  { World.holding Tryd.prog os ⟨#[], #[], []⟩ with heap := (World.holding Tryd.prog os ⟨#[], #[], []⟩).heap.modify 0 fun
      | .cells _ t frozen => .cells #[.int .i64 1, .int .i64 3, .int .i64 7] t frozen
      | o => o }
theorem laid_met (os : Os) : laidMet Tryd.prog Rows.cycleOldRow.laid ((laidWorld os).forCall (fun _ _ => 0) ⟨#[], #[Value.int .u8 0, Value.int .u32 0, Value.int .u8 0, (.agg #[.int .u8 0, .int .i64 0, .int .i64 0, .int .i64 0, .int .i64 0, .int .u8 0] : Value), Value.int .u8 0, Value.int .u16 0, Value.bool false], []⟩).memory :=
  laidMet_of_run' 8 (by kernel_rfl) (by kernel_rfl)
theorem reads (os : Os) {H : Type} (enc : TypeId × Value → H) : ∃ places, DataW.whole enc Tryd.prog ((laidWorld os).forCall (fun _ _ => 0) ⟨#[], #[Value.int .u8 0, Value.int .u32 0, Value.int .u8 0, (.agg #[.int .u8 0, .int .i64 0, .int .i64 0, .int .i64 0, .int .i64 0, .int .u8 0] : Value), Value.int .u8 0, Value.int .u16 0, Value.bool false], []⟩).memory Tryd.f5.params.toList Rows.cycleOldSpec.vars false (#[Value.int .u8 0, Value.int .u32 0, Value.int .u8 0, (.agg #[.int .u8 0, .int .i64 0, .int .i64 0, .int .i64 0, .int .i64 0, .int .u8 0] : Value), Value.int .u8 0, Value.int .u16 0, Value.bool false] : Array Value).toList 8 = some ([.lit (.int .u8 0), .lit (.int .u32 0), .lit (.int .u8 0), .agg [.lit (.int .u8 0), .lit (.int .i64 0), .lit (.int .i64 0), .lit (.int .i64 0), .lit (.int .i64 0), .lit (.int .u8 0)], .lit (.int .u8 0), .lit (.int .u16 0), .lit (.bool false)], [], places) :=
  ⟨[], by kernel_rfl⟩
set_option maxRecDepth 100000 in
theorem lifted (os : Os) (started : os.Started) (H : Type) (enc : TypeId × Value → H) (F : Stop.Interp) :
    ReturnsInHanded {} Tryd.checked os 5 .any ((OpenSpec.ofChange Rows.cycleOldSpec).preRow enc Tryd.prog Tryd.f5 Rows.cycleOldRow.domain false Rows.cycleOldRow.laid) (((OpenSpec.ofChange Rows.cycleOldSpec).at F).post enc Tryd.prog Tryd.f5 false true false false) := by
  obtain ⟨places, hx⟩ := reads os enc
  refine returnsInHanded_of_row (C := Tryd.checked) (s := OpenSpec.ofChange Rows.cycleOldSpec) own started (by kernel_rfl) Tryd.func5
    (witness_row_at (enc := enc) (C := Tryd.checked) false (laidWorld os) #[Value.int .u8 0, Value.int .u32 0, Value.int .u8 0, (.agg #[.int .u8 0, .int .i64 0, .int .i64 0, .int .i64 0, .int .i64 0, .int .u8 0] : Value), Value.int .u8 0, Value.int .u16 0, Value.bool false] rfl (by kernel_rfl) (by kernel_rfl) (by kernel_rfl)
      (OpenSpec.preRow_of_cond 8 hx (by kernel_rfl) (fun k hk => by cases hk) (by kernel_rfl) (laid_met os))) ?_
  intro W base args ds gs before hval0 hW0 hcnd _ hsz0 hL _ _
  show Calls Tryd.prog 5 args W fun e W' => ∃ v, e = .returned v ∧ Rows.cycleOldSpec.post enc Tryd.prog Tryd.f5 false true false false W args v W'
  have hW : DataW.Whole enc Tryd.prog Tryd.f5.params.toList Rows.cycleOldSpec.vars false W args.toList ds gs before := hW0
  have hsz : (DataW.weightsEach Tryd.prog (Tryd.f5.params.toList ++ Rows.cycleOldSpec.plain.varTypes Tryd.prog) (ds ++ gs)).all (· ≤ reachBytes) = true := hsz0
  have hval : ∀ (j : Nat) t v, Tryd.f5.params[j]? = some t → args[j]? = some v → Value.okWide Tryd.prog W .any base t v := hval0
  have hW' := hW
  obtain ⟨p, q, hA0, hV, rfl, hfz, hnd⟩ := hW
  have hA : DataW.TrodAll enc Tryd.prog W 0 (fun _ => true) true Tryd.f5.params.toList args.toList ds p := hA0
  rw [Tryd.params5] at hA hval hsz
  obtain ⟨v0, vs0, d0, ds0, p0, q0, hargs, rfl, rfl, h0, r0⟩ := trodAll_cons hA
  obtain ⟨v1, vs1, d1, ds1, p1, q1, rfl, rfl, rfl, h1, r1⟩ := trodAll_cons r0
  obtain ⟨v2, vs2, d2, ds2, p2, q2, rfl, rfl, rfl, h2, r2⟩ := trodAll_cons r1
  obtain ⟨v3, vs3, d3, ds3, p3, q3, rfl, rfl, rfl, h3, r3⟩ := trodAll_cons r2
  obtain ⟨v4, vs4, d4, ds4, p4, q4, rfl, rfl, rfl, h4, r4⟩ := trodAll_cons r3
  obtain ⟨v5, vs5, d5, ds5, p5, q5, rfl, rfl, rfl, h5, r5⟩ := trodAll_cons r4
  obtain ⟨v6, vs6, d6, ds6, p6, q6, rfl, rfl, rfl, h6, r6⟩ := trodAll_cons r5
  obtain ⟨rfl, rfl, rfl⟩ := trodAll_nil r6
  obtain rfl : args = #[v0, v1, v2, v3, v4, v5, v6] := by cases args; simp_all
  obtain ⟨rfl, rfl⟩ := trodVars_none hV
  obtain ⟨a0, rfl, rfl, rfl, w0⟩ := open_int Tryd.underlying5 (hval 0 5 v0 rfl rfl) h0
  obtain ⟨a1, rfl, rfl, rfl, w1⟩ := open_int Tryd.underlying23 (hval 1 23 v1 rfl rfl) h1
  obtain ⟨a2, rfl, rfl, rfl, w2⟩ := open_int Tryd.underlying5 (hval 2 5 v2 rfl rfl) h2
  obtain ⟨cs3, rfl, hz3⟩ := okWide_struct Tryd.underlying28 (hval 3 28 v3 rfl rfl)
  obtain ⟨l3⟩ := cs3
  obtain ⟨c3_0, c3_1, c3_2, c3_3, c3_4, c3_5, rfl⟩ := list_6 (show l3.length = 6 from hz3.trans (by kernel_rfl))
  have k3 := h3
  have lt3 : ∀ x ∈ p3, x.block < W.heap.size := by obtain ⟨m, hm⟩ := k3; exact DataW.trod_lt m _ _ _ hm
  obtain ⟨fu3, hf3⟩ := h3
  obtain ⟨xss3, ns3, _, _, _, hls3, hgs3⟩ := DataW.trod_struct Tryd.underlying28 (show DataW.trod enc Tryd.prog W 0 (fun _ => true) true fu3 28 [c3_0, c3_1, c3_2, c3_3, c3_4, c3_5] = some _ from hf3)
  have es3_0 := hgs3 0 _ rfl
  obtain ⟨yes3_0, zes3_0⟩ : ∃ y, xss3[0]? = some y := ⟨_, List.getElem?_eq_getElem (by rw [hls3]; decide)⟩
  replace es3_0 : DataW.trod enc Tryd.prog W 0 (fun _ => true) true ns3 5 (List.take (Tryd.prog.cellsOf 5) (List.drop 0 _)) = xss3[0]? := es3_0
  rw [zes3_0, show Tryd.prog.cellsOf 5 = 1 from by kernel_rfl] at es3_0
  replace es3_0 : DataW.trod enc Tryd.prog W 0 (fun _ => true) true ns3 5 [c3_0] = some yes3_0 := es3_0
  obtain ⟨a3_0, ha_, _, w3_0⟩ := DataW.trod_int Tryd.underlying5 es3_0
  obtain rfl : c3_0 = .int .u8 a3_0 := by simpa using ha_
  have es3_1 := hgs3 1 _ rfl
  obtain ⟨yes3_1, zes3_1⟩ : ∃ y, xss3[1]? = some y := ⟨_, List.getElem?_eq_getElem (by rw [hls3]; decide)⟩
  replace es3_1 : DataW.trod enc Tryd.prog W 0 (fun _ => true) true ns3 3 (List.take (Tryd.prog.cellsOf 3) (List.drop 1 _)) = xss3[1]? := es3_1
  rw [zes3_1, show Tryd.prog.cellsOf 3 = 1 from by kernel_rfl] at es3_1
  replace es3_1 : DataW.trod enc Tryd.prog W 0 (fun _ => true) true ns3 3 [c3_1] = some yes3_1 := es3_1
  obtain ⟨a3_1, ha_, _, w3_1⟩ := DataW.trod_int Tryd.underlying3 es3_1
  obtain rfl : c3_1 = .int .i64 a3_1 := by simpa using ha_
  have es3_2 := hgs3 2 _ rfl
  obtain ⟨yes3_2, zes3_2⟩ : ∃ y, xss3[2]? = some y := ⟨_, List.getElem?_eq_getElem (by rw [hls3]; decide)⟩
  replace es3_2 : DataW.trod enc Tryd.prog W 0 (fun _ => true) true ns3 3 (List.take (Tryd.prog.cellsOf 3) (List.drop 2 _)) = xss3[2]? := es3_2
  rw [zes3_2, show Tryd.prog.cellsOf 3 = 1 from by kernel_rfl] at es3_2
  replace es3_2 : DataW.trod enc Tryd.prog W 0 (fun _ => true) true ns3 3 [c3_2] = some yes3_2 := es3_2
  obtain ⟨a3_2, ha_, _, w3_2⟩ := DataW.trod_int Tryd.underlying3 es3_2
  obtain rfl : c3_2 = .int .i64 a3_2 := by simpa using ha_
  have es3_3 := hgs3 3 _ rfl
  obtain ⟨yes3_3, zes3_3⟩ : ∃ y, xss3[3]? = some y := ⟨_, List.getElem?_eq_getElem (by rw [hls3]; decide)⟩
  replace es3_3 : DataW.trod enc Tryd.prog W 0 (fun _ => true) true ns3 3 (List.take (Tryd.prog.cellsOf 3) (List.drop 3 _)) = xss3[3]? := es3_3
  rw [zes3_3, show Tryd.prog.cellsOf 3 = 1 from by kernel_rfl] at es3_3
  replace es3_3 : DataW.trod enc Tryd.prog W 0 (fun _ => true) true ns3 3 [c3_3] = some yes3_3 := es3_3
  obtain ⟨a3_3, ha_, _, w3_3⟩ := DataW.trod_int Tryd.underlying3 es3_3
  obtain rfl : c3_3 = .int .i64 a3_3 := by simpa using ha_
  have es3_4 := hgs3 4 _ rfl
  obtain ⟨yes3_4, zes3_4⟩ : ∃ y, xss3[4]? = some y := ⟨_, List.getElem?_eq_getElem (by rw [hls3]; decide)⟩
  replace es3_4 : DataW.trod enc Tryd.prog W 0 (fun _ => true) true ns3 2 (List.take (Tryd.prog.cellsOf 2) (List.drop 4 _)) = xss3[4]? := es3_4
  rw [zes3_4, show Tryd.prog.cellsOf 2 = 1 from by kernel_rfl] at es3_4
  replace es3_4 : DataW.trod enc Tryd.prog W 0 (fun _ => true) true ns3 2 [c3_4] = some yes3_4 := es3_4
  obtain ⟨a3_4, ha_, _, w3_4⟩ := DataW.trod_int Tryd.underlying2 es3_4
  obtain rfl : c3_4 = .int .i64 a3_4 := by simpa using ha_
  have es3_5 := hgs3 5 _ rfl
  obtain ⟨yes3_5, zes3_5⟩ : ∃ y, xss3[5]? = some y := ⟨_, List.getElem?_eq_getElem (by rw [hls3]; decide)⟩
  replace es3_5 : DataW.trod enc Tryd.prog W 0 (fun _ => true) true ns3 5 (List.take (Tryd.prog.cellsOf 5) (List.drop 5 _)) = xss3[5]? := es3_5
  rw [zes3_5, show Tryd.prog.cellsOf 5 = 1 from by kernel_rfl] at es3_5
  replace es3_5 : DataW.trod enc Tryd.prog W 0 (fun _ => true) true ns3 5 [c3_5] = some yes3_5 := es3_5
  obtain ⟨a3_5, ha_, _, w3_5⟩ := DataW.trod_int Tryd.underlying5 es3_5
  obtain rfl : c3_5 = .int .u8 a3_5 := by simpa using ha_
  obtain ⟨a4, rfl, rfl, rfl, w4⟩ := open_int Tryd.underlying5 (hval 4 5 v4 rfl rfl) h4
  obtain ⟨a5, rfl, rfl, rfl, w5⟩ := open_int Tryd.underlying22 (hval 5 22 v5 rfl rfl) h5
  obtain ⟨a6, rfl, rfl, rfl⟩ := open_bool Tryd.underlying4 (hval 6 4 v6 rfl rfl) h6
  clear hA0 hval0 hsz0 hsz
  refine (PA.paybooklaw12_CycleOld.walk Pure.CycleOld a0 a1 a2 a3_0 a3_1 a3_2 a3_3 a3_4 a3_5 a4 a5 a6 W w0 w1 w2 w3_0 w3_1 w3_2 w3_3 w3_4 w3_5 w4 w5 (glob hL)).mono fun e W' ⟨he, bel⟩ => ?_
  subst he
  exact ⟨_, rfl, _, _, _, [], _, [], hW', trodAll_mk1 (shut_bool Tryd.underlying4 _), (trodAll_cons_mk (shut_int Tryd.underlying5 w0) (trodAll_cons_mk (shut_int Tryd.underlying23 w1) (trodAll_cons_mk (shut_int Tryd.underlying5 w2) (trodAll_cons_mk (Below.trod laidOut (by kernel_rfl) (of_decide_eq_true (by kernel_rfl)) k3 bel lt3) (trodAll_cons_mk (shut_int Tryd.underlying5 w4) (trodAll_cons_mk (shut_int Tryd.underlying22 w5) (trodAll_cons_mk (shut_bool Tryd.underlying4 _) trodAll_mk0))))))), rfl, bel.frame _, fun h => by cases h⟩
theorem said : Rows.CycleOldSaid :=
  OpenClaim.holds_of_cond 5 Tryd.f5 rfl rfl rfl rfl rfl rfl rfl ⟨rfl, rfl, rfl, rfl, rfl⟩ rfl rfl rfl rfl rfl (by kernel_rfl) Tryd.func5 (by kernel_rfl)
    (of_decide_eq_true (by kernel_rfl)) (by unfold Func.isWrapper; first | (rw [if_pos (by decide +kernel)]; kernel_rfl) | (rw [if_neg (by decide +kernel)]; exact ⟨rfl, rfl⟩))
    (fun os started H enc _ F => by rw [OpenClaim.pre_eq_preRow]; exact lifted os started H enc F)
theorem plain (f : FuncId) (fn : Func) (hf : Tryd.pinned.checked.prog.funcNamed "paybook/paybooklaw12.CycleOld" = some f) (hfn : Tryd.pinned.checked.prog.funcs[f]? = some fn) :
    false = Tryd.pinned.checked.prog.looks [] ∧ ∀ (j : Nat) t, fn.params[j]? = some t → Tryd.pinned.checked.prog.wantsStandIn t = false := by
  obtain rfl : f = 5 := Option.some.inj ((show Tryd.prog.funcNamed "paybook/paybooklaw12.CycleOld" = some 5 by kernel_rfl).symm.trans hf) |>.symm
  obtain rfl : fn = Tryd.f5 := (Option.some.inj (Tryd.func5.symm.trans hfn)).symm
  refine ⟨by kernel_rfl, fun j t ht => ?_⟩
  have hall : (Tryd.f5.params.toList.all fun t => Tryd.prog.wantsStandIn t == false) = true := by kernel_rfl
  have hm := List.all_eq_true.1 hall t (Array.mem_toList_iff.2 (Array.mem_of_getElem? ht))
  exact (beq_iff_eq.1 hm)
theorem card : Rows.CycleOldCardSaid :=
  Claim7.holds_tied_plain_at .later [] _ _ _ _ said (fun _ h => by cases h) (by kernel_rfl) (fun _ h => by cases h) cycleOld_row_tie rfl ⟨rfl, rfl⟩ (by kernel_rfl) rfl plain (by kernel_rfl)
#print axioms card
end Go.Proofs.YtlfaaogifplgeaaDoor.cycleOld
namespace Go.Proofs.YtlfaaogifplgeaaDoor
/-- The card, under a short name, for the claim. -/
theorem cycleOld_holds : Rows.CycleOldCardSaid := cycleOld.card
end Go.Proofs.YtlfaaogifplgeaaDoor
