/- The row of NoticeTurns: it answers true for every input. -/
import Derived.Test.YtlbfmpjkdoecbaaDoorTurns
import Derived.Test.YtlbfmpjkdoecbaaDoorCards
import Derived.Test.YtlbfmpjkdoecbaaDoorTie
import Derived.Test.YtlbfmpjkdoecbaaDoorRows
import Derived.WalkKit
import Derived.ProofKit
import Derived.OpenShut
import Derived.ShutString
import Derived.ChangeOld
import Derived.Below
import Derived.SizedLaws
import Derived.Deep.DeepHandedRow
import Derived.Lib.LaidTab
import Derived.Test.YtlbfmpjkdoecbaaDoorWSized
namespace Go.Proofs.YtlbfmpjkdoecbaaDoor.noticeTurns
open Go.ChangeShapes Go.WideShapes Go.ChangeAt Go.RowKit
open Go.ChangeMaps (open_string shut_string)
set_option linter.unusedVariables false
theorem own : ownKnob Tryd.prog.godebug = none := by kernel_rfl
theorem laidOut : laidOutB Tryd.prog = true := by kernel_rfl
def IsRow (k : IntKind) (w : World) (a : Option Addr) (len cap : Nat) (zs : List Int) : Prop :=
  (a = none ∧ len = 0 ∧ cap = 0 ∧ zs = []) ∨
  ∃ x, a = some x ∧ len ≤ cap ∧ cap ≤ maxLen ∧ zs.length = cap ∧ (∀ i, i < zs.length → w.cell? (x.add i) = some (.int k (zs.getD i 0))) ∧ ∀ n ∈ zs, (Lit.int k n).wf = true
theorem list_6 {α : Type} {l : List α} (h : l.length = 6) : ∃ x0 x1 x2 x3 x4 x5, l = [x0, x1, x2, x3, x4, x5] := by
  match l, h with
  | [x0, x1, x2, x3, x4, x5], _ => exact ⟨x0, x1, x2, x3, x4, x5, rfl⟩
open Go.Proofs.YtlbfmpjkdoecbaaDoorW.PrintWords
theorem row_in {k : IntKind} {w : World} {a : Option Addr} {len cap : Nat} {zs : List Int} (h : (a = none ∧ len = 0 ∧ cap = 0 ∧ zs = []) ∨
  ∃ x, a = some x ∧ len ≤ cap ∧ cap ≤ maxLen ∧ zs.length = cap ∧ (∀ i, i < zs.length → w.cell? (x.add i) = some (.int k (zs.getD i 0))) ∧ ∀ n ∈ zs, (Lit.int k n).wf = true) : RowIn k w a len (zs.take len) := by
  rcases h with ⟨rfl, rfl, rfl, rfl⟩ | ⟨x, rfl, h1, h2, h3, h4, h5⟩
  · exact ⟨rfl, by simp, fun i hi => by omega⟩
  · refine ⟨by simp; omega, fun n hn => h5 n (List.mem_of_mem_take hn), fun i hi => ⟨x, rfl, ?_⟩⟩
    rw [h4 i (by omega)]
    simp [List.getD_eq_getElem?_getD, hi]
theorem gTab : Tryd.prog.globalNamed "paybook/seal.quarter" = some 0 := by kernel_rfl
theorem gTabType : (Tryd.prog.globals[0]?).map (·.type) = some 59 := by kernel_rfl
theorem cellsT : Tryd.prog.cellsOf 59 = 16 := by kernel_rfl
theorem cellsE : Tryd.prog.cellsOf 31 = 1 := by kernel_rfl
theorem table {W : World} (h : laidMetH Tryd.prog Rows.noticeTurnsRow.laid W) : Lib.TabIs Tryd.prog W "paybook/seal.quarter" .u32 PA.gl0 :=
  Lib.tabIs_of_head (rest := []) gTab gTabType Tryd.underlying59 Tryd.underlying31 cellsE cellsT h
theorem glob {W : World} (h : laidMetH Tryd.prog Rows.noticeTurnsRow.laid W) : Kd.C (Kd.int .u32) W (some ⟨0, 0, none⟩) 16 PA.gl0 :=
  Kd.C_of_reads (d := (0 : Int)) (h1 := fun _ => rfl) ⟨rfl, by decide, fun _ => ⟨_, rfl, fun j hj => by rw [Go.Proofs.YtlbfmpjkdoecbaaDoorW.PrintWords.add_plain]; exact (table h).cell gTab j hj⟩⟩
noncomputable def laidWorld (os : Os) : World :=
  { World.holding Tryd.prog os ⟨#[], #[], []⟩ with heap := (World.holding Tryd.prog os ⟨#[], #[], []⟩).heap.modify 0 fun
      | .cells _ t frozen => .cells #[.int .u32 0, .int .u32 498536548, .int .u32 997073096, .int .u32 651767980, .int .u32 1994146192, .int .u32 1802195444, .int .u32 1303535960, .int .u32 1342533948, .int .u32 3988292384, .int .u32 4027552580, .int .u32 3604390888, .int .u32 3412177804, .int .u32 2607071920, .int .u32 2262029012, .int .u32 2685067896, .int .u32 3183342108] t frozen
      | o => o }
theorem laid_met (os : Os) : laidMet Tryd.prog Rows.noticeTurnsRow.laid ((laidWorld os).forCall (fun _ _ => 0) ⟨#[], #[(.agg #[.int .u8 0, .int .i64 0, .int .i64 0, .int .i64 0, .int .i64 0, .int .u8 0] : Value), Value.int .u8 0, Value.int .u8 0, Value.int .u8 0, Value.slice none 0 0], []⟩).memory :=
  laidMet_of_run' 8 (by kernel_rfl) (by kernel_rfl)
theorem reads (os : Os) {H : Type} (enc : TypeId × Value → H) : ∃ places, DataW.whole enc Tryd.prog ((laidWorld os).forCall (fun _ _ => 0) ⟨#[], #[(.agg #[.int .u8 0, .int .i64 0, .int .i64 0, .int .i64 0, .int .i64 0, .int .u8 0] : Value), Value.int .u8 0, Value.int .u8 0, Value.int .u8 0, Value.slice none 0 0], []⟩).memory Tryd.f4.params.toList Rows.noticeTurnsSpec.vars false (#[(.agg #[.int .u8 0, .int .i64 0, .int .i64 0, .int .i64 0, .int .i64 0, .int .u8 0] : Value), Value.int .u8 0, Value.int .u8 0, Value.int .u8 0, Value.slice none 0 0] : Array Value).toList 8 = some ([.agg [.lit (.int .u8 0), .lit (.int .i64 0), .lit (.int .i64 0), .lit (.int .i64 0), .lit (.int .i64 0), .lit (.int .u8 0)], .lit (.int .u8 0), .lit (.int .u8 0), .lit (.int .u8 0), .nil], [], places) :=
  ⟨[], by kernel_rfl⟩
set_option maxRecDepth 100000 in
theorem lifted (os : Os) (started : os.Started) (H : Type) (enc : TypeId × Value → H) (F : Stop.Interp) :
    ReturnsInHanded {} Tryd.checked os 4 .any ((OpenSpec.ofChange Rows.noticeTurnsSpec).preRow enc Tryd.prog Tryd.f4 Rows.noticeTurnsRow.domain false Rows.noticeTurnsRow.laid) (((OpenSpec.ofChange Rows.noticeTurnsSpec).at F).post enc Tryd.prog Tryd.f4 false true false false) := by
  obtain ⟨places, hx⟩ := reads os enc
  refine returnsInHanded_of_row (C := Tryd.checked) (s := OpenSpec.ofChange Rows.noticeTurnsSpec) own started (by kernel_rfl) Tryd.func4
    (witness_row_at (enc := enc) (C := Tryd.checked) false (laidWorld os) #[(.agg #[.int .u8 0, .int .i64 0, .int .i64 0, .int .i64 0, .int .i64 0, .int .u8 0] : Value), Value.int .u8 0, Value.int .u8 0, Value.int .u8 0, Value.slice none 0 0] rfl (by kernel_rfl) (by kernel_rfl) (by kernel_rfl)
      (OpenSpec.preRow_of_cond 8 hx (by kernel_rfl) (fun k hk => by cases hk) (by kernel_rfl) (laid_met os))) ?_
  intro W base args ds gs before hval0 hW0 hcnd _ hsz0 hL _ _
  show Calls Tryd.prog 4 args W fun e W' => ∃ v, e = .returned v ∧ Rows.noticeTurnsSpec.post enc Tryd.prog Tryd.f4 false true false false W args v W'
  have hW : DataW.Whole enc Tryd.prog Tryd.f4.params.toList Rows.noticeTurnsSpec.vars false W args.toList ds gs before := hW0
  have hsz : (DataW.weightsEach Tryd.prog (Tryd.f4.params.toList ++ Rows.noticeTurnsSpec.plain.varTypes Tryd.prog) (ds ++ gs)).all (· ≤ reachBytes) = true := hsz0
  have hval : ∀ (j : Nat) t v, Tryd.f4.params[j]? = some t → args[j]? = some v → Value.okWide Tryd.prog W .any base t v := hval0
  have hW' := hW
  obtain ⟨p, q, hA0, hV, rfl, hfz, hnd⟩ := hW
  have hA : DataW.TrodAll enc Tryd.prog W 0 (fun _ => true) true Tryd.f4.params.toList args.toList ds p := hA0
  rw [Tryd.params4] at hA hval hsz
  obtain ⟨v0, vs0, d0, ds0, p0, q0, hargs, rfl, rfl, h0, r0⟩ := trodAll_cons hA
  obtain ⟨v1, vs1, d1, ds1, p1, q1, rfl, rfl, rfl, h1, r1⟩ := trodAll_cons r0
  obtain ⟨v2, vs2, d2, ds2, p2, q2, rfl, rfl, rfl, h2, r2⟩ := trodAll_cons r1
  obtain ⟨v3, vs3, d3, ds3, p3, q3, rfl, rfl, rfl, h3, r3⟩ := trodAll_cons r2
  obtain ⟨v4, vs4, d4, ds4, p4, q4, rfl, rfl, rfl, h4, r4⟩ := trodAll_cons r3
  obtain ⟨rfl, rfl, rfl⟩ := trodAll_nil r4
  obtain rfl : args = #[v0, v1, v2, v3, v4] := by cases args; simp_all
  obtain ⟨rfl, rfl⟩ := trodVars_none hV
  obtain ⟨cs0, rfl, hz0⟩ := okWide_struct Tryd.underlying23 (hval 0 23 v0 rfl rfl)
  obtain ⟨l0⟩ := cs0
  obtain ⟨c0_0, c0_1, c0_2, c0_3, c0_4, c0_5, rfl⟩ := list_6 (show l0.length = 6 from hz0.trans (by kernel_rfl))
  have k0 := h0
  have lt0 : ∀ x ∈ p0, x.block < W.heap.size := by obtain ⟨m, hm⟩ := k0; exact DataW.trod_lt m _ _ _ hm
  obtain ⟨fu0, hf0⟩ := h0
  obtain ⟨xss0, ns0, _, _, _, hls0, hgs0⟩ := DataW.trod_struct Tryd.underlying23 (show DataW.trod enc Tryd.prog W 0 (fun _ => true) true fu0 23 [c0_0, c0_1, c0_2, c0_3, c0_4, c0_5] = some _ from hf0)
  have es0_0 := hgs0 0 _ rfl
  obtain ⟨yes0_0, zes0_0⟩ : ∃ y, xss0[0]? = some y := ⟨_, List.getElem?_eq_getElem (by rw [hls0]; decide)⟩
  replace es0_0 : DataW.trod enc Tryd.prog W 0 (fun _ => true) true ns0 5 (List.take (Tryd.prog.cellsOf 5) (List.drop 0 _)) = xss0[0]? := es0_0
  rw [zes0_0, show Tryd.prog.cellsOf 5 = 1 from by kernel_rfl] at es0_0
  replace es0_0 : DataW.trod enc Tryd.prog W 0 (fun _ => true) true ns0 5 [c0_0] = some yes0_0 := es0_0
  obtain ⟨a0_0, ha_, _, w0_0⟩ := DataW.trod_int Tryd.underlying5 es0_0
  obtain rfl : c0_0 = .int .u8 a0_0 := by simpa using ha_
  have es0_1 := hgs0 1 _ rfl
  obtain ⟨yes0_1, zes0_1⟩ : ∃ y, xss0[1]? = some y := ⟨_, List.getElem?_eq_getElem (by rw [hls0]; decide)⟩
  replace es0_1 : DataW.trod enc Tryd.prog W 0 (fun _ => true) true ns0 3 (List.take (Tryd.prog.cellsOf 3) (List.drop 1 _)) = xss0[1]? := es0_1
  rw [zes0_1, show Tryd.prog.cellsOf 3 = 1 from by kernel_rfl] at es0_1
  replace es0_1 : DataW.trod enc Tryd.prog W 0 (fun _ => true) true ns0 3 [c0_1] = some yes0_1 := es0_1
  obtain ⟨a0_1, ha_, _, w0_1⟩ := DataW.trod_int Tryd.underlying3 es0_1
  obtain rfl : c0_1 = .int .i64 a0_1 := by simpa using ha_
  have es0_2 := hgs0 2 _ rfl
  obtain ⟨yes0_2, zes0_2⟩ : ∃ y, xss0[2]? = some y := ⟨_, List.getElem?_eq_getElem (by rw [hls0]; decide)⟩
  replace es0_2 : DataW.trod enc Tryd.prog W 0 (fun _ => true) true ns0 3 (List.take (Tryd.prog.cellsOf 3) (List.drop 2 _)) = xss0[2]? := es0_2
  rw [zes0_2, show Tryd.prog.cellsOf 3 = 1 from by kernel_rfl] at es0_2
  replace es0_2 : DataW.trod enc Tryd.prog W 0 (fun _ => true) true ns0 3 [c0_2] = some yes0_2 := es0_2
  obtain ⟨a0_2, ha_, _, w0_2⟩ := DataW.trod_int Tryd.underlying3 es0_2
  obtain rfl : c0_2 = .int .i64 a0_2 := by simpa using ha_
  have es0_3 := hgs0 3 _ rfl
  obtain ⟨yes0_3, zes0_3⟩ : ∃ y, xss0[3]? = some y := ⟨_, List.getElem?_eq_getElem (by rw [hls0]; decide)⟩
  replace es0_3 : DataW.trod enc Tryd.prog W 0 (fun _ => true) true ns0 3 (List.take (Tryd.prog.cellsOf 3) (List.drop 3 _)) = xss0[3]? := es0_3
  rw [zes0_3, show Tryd.prog.cellsOf 3 = 1 from by kernel_rfl] at es0_3
  replace es0_3 : DataW.trod enc Tryd.prog W 0 (fun _ => true) true ns0 3 [c0_3] = some yes0_3 := es0_3
  obtain ⟨a0_3, ha_, _, w0_3⟩ := DataW.trod_int Tryd.underlying3 es0_3
  obtain rfl : c0_3 = .int .i64 a0_3 := by simpa using ha_
  have es0_4 := hgs0 4 _ rfl
  obtain ⟨yes0_4, zes0_4⟩ : ∃ y, xss0[4]? = some y := ⟨_, List.getElem?_eq_getElem (by rw [hls0]; decide)⟩
  replace es0_4 : DataW.trod enc Tryd.prog W 0 (fun _ => true) true ns0 2 (List.take (Tryd.prog.cellsOf 2) (List.drop 4 _)) = xss0[4]? := es0_4
  rw [zes0_4, show Tryd.prog.cellsOf 2 = 1 from by kernel_rfl] at es0_4
  replace es0_4 : DataW.trod enc Tryd.prog W 0 (fun _ => true) true ns0 2 [c0_4] = some yes0_4 := es0_4
  obtain ⟨a0_4, ha_, _, w0_4⟩ := DataW.trod_int Tryd.underlying2 es0_4
  obtain rfl : c0_4 = .int .i64 a0_4 := by simpa using ha_
  have es0_5 := hgs0 5 _ rfl
  obtain ⟨yes0_5, zes0_5⟩ : ∃ y, xss0[5]? = some y := ⟨_, List.getElem?_eq_getElem (by rw [hls0]; decide)⟩
  replace es0_5 : DataW.trod enc Tryd.prog W 0 (fun _ => true) true ns0 5 (List.take (Tryd.prog.cellsOf 5) (List.drop 5 _)) = xss0[5]? := es0_5
  rw [zes0_5, show Tryd.prog.cellsOf 5 = 1 from by kernel_rfl] at es0_5
  replace es0_5 : DataW.trod enc Tryd.prog W 0 (fun _ => true) true ns0 5 [c0_5] = some yes0_5 := es0_5
  obtain ⟨a0_5, ha_, _, w0_5⟩ := DataW.trod_int Tryd.underlying5 es0_5
  obtain rfl : c0_5 = .int .u8 a0_5 := by simpa using ha_
  obtain ⟨a1, rfl, rfl, rfl, w1⟩ := open_int Tryd.underlying5 (hval 1 5 v1 rfl rfl) h1
  obtain ⟨a2, rfl, rfl, rfl, w2⟩ := open_int Tryd.underlying5 (hval 2 5 v2 rfl rfl) h2
  obtain ⟨a3, rfl, rfl, rfl, w3⟩ := open_int Tryd.underlying5 (hval 3 5 v3 rfl rfl) h3
  obtain ⟨a4, len4, cap4, rfl⟩ := okWide_slice Tryd.underlying25 (hval 4 25 v4 rfl rfl)
  have k4 := h4
  have lt4 : ∀ x ∈ p4, x.block < W.heap.size := by obtain ⟨m, hm⟩ := k4; exact DataW.trod_lt m _ _ _ hm
  obtain ⟨z4, w4⟩ : ∃ zs, (a4 = none ∧ len4 = 0 ∧ cap4 = 0 ∧ zs = []) ∨ ∃ x, a4 = some x ∧ len4 ≤ cap4 ∧ cap4 ≤ maxLen ∧ zs.length = cap4 ∧ (∀ i, i < zs.length → W.cell? (x.add i) = some (.int .u8 (zs.getD i 0))) ∧ ∀ n ∈ zs, (Lit.int .u8 n).wf = true := by
    obtain ⟨fuel, hf⟩ := h4
    rcases open_ints Tryd.underlying25 Tryd.underlying5 (by kernel_rfl) hf with ⟨hcs, _⟩ | ⟨x, l, c, zs, hcs, _, hl, hm, hz, _, hcell, hwz⟩
    · simp [Value.cells] at hcs
      obtain ⟨rfl, rfl, rfl⟩ := hcs
      exact ⟨[], .inl ⟨rfl, rfl, rfl, rfl⟩⟩
    · simp [Value.cells] at hcs
      obtain ⟨rfl, rfl, rfl⟩ := hcs
      exact ⟨zs, .inr ⟨_, rfl, hl, hm, by simpa using hz, hcell, hwz⟩⟩
  have row4 := row_in w4
  have y4 : len4 * 1 ≤ 140737488351232 := Go.Proofs.YtlbfmpjkdoecbaaDoorW.PrintWords.sized_ints hsz (j := 4) (t := 25) rfl rfl Tryd.underlying25 Tryd.underlying5 (by kernel_rfl) (by kernel_rfl) h4
  clear hA0 hval0 hsz0 hsz
  refine (turns_any a0_0 a0_1 a0_2 a0_3 a0_4 a0_5 a1 a2 a3 a4 len4 cap4 z4 W w0_0 w0_5 w1 w2 w3 w4 (glob hL)).mono fun e W' ⟨he, bel⟩ => ?_
  subst he
  exact ⟨_, rfl, _, _, _, [], _, [], hW', trodAll_mk1 (shut_bool Tryd.underlying4 _), (trodAll_cons_mk (Below.trod laidOut (by kernel_rfl) (of_decide_eq_true (by kernel_rfl)) k0 bel lt0) (trodAll_cons_mk (shut_int Tryd.underlying5 w1) (trodAll_cons_mk (shut_int Tryd.underlying5 w2) (trodAll_cons_mk (shut_int Tryd.underlying5 w3) (trodAll_cons_mk (Below.trod laidOut (by kernel_rfl) (of_decide_eq_true (by kernel_rfl)) k4 bel lt4) trodAll_mk0))))), rfl, bel.frame _, fun h => by cases h⟩
theorem said : Rows.NoticeTurnsSaid :=
  OpenClaim.holds_of_cond 4 Tryd.f4 rfl rfl rfl rfl rfl rfl rfl ⟨rfl, rfl, rfl, rfl, rfl⟩ rfl rfl rfl rfl rfl (by kernel_rfl) Tryd.func4 (by kernel_rfl)
    (of_decide_eq_true (by kernel_rfl)) (by unfold Func.isWrapper; first | (rw [if_pos (by decide +kernel)]; kernel_rfl) | (rw [if_neg (by decide +kernel)]; exact ⟨rfl, rfl⟩))
    (fun os started H enc _ F => by rw [OpenClaim.pre_eq_preRow]; exact lifted os started H enc F)
theorem plain (f : FuncId) (fn : Func) (hf : Tryd.pinned.checked.prog.funcNamed "paybook/paybooklaw11.NoticeTurns" = some f) (hfn : Tryd.pinned.checked.prog.funcs[f]? = some fn) :
    false = Tryd.pinned.checked.prog.looks [] ∧ ∀ (j : Nat) t, fn.params[j]? = some t → Tryd.pinned.checked.prog.wantsStandIn t = false := by
  obtain rfl : f = 4 := Option.some.inj ((show Tryd.prog.funcNamed "paybook/paybooklaw11.NoticeTurns" = some 4 by kernel_rfl).symm.trans hf) |>.symm
  obtain rfl : fn = Tryd.f4 := (Option.some.inj (Tryd.func4.symm.trans hfn)).symm
  refine ⟨by kernel_rfl, fun j t ht => ?_⟩
  have hall : (Tryd.f4.params.toList.all fun t => Tryd.prog.wantsStandIn t == false) = true := by kernel_rfl
  have hm := List.all_eq_true.1 hall t (Array.mem_toList_iff.2 (Array.mem_of_getElem? ht))
  exact (beq_iff_eq.1 hm)
theorem card : Rows.NoticeTurnsCardSaid :=
  Claim7.holds_tied_plain_at .later [] _ _ _ _ said (fun _ h => by cases h) (by kernel_rfl) (fun _ h => by cases h) noticeTurns_row_tie rfl ⟨rfl, rfl⟩ (by kernel_rfl) rfl plain (by kernel_rfl)
#print axioms card
end Go.Proofs.YtlbfmpjkdoecbaaDoor.noticeTurns
namespace Go.Proofs.YtlbfmpjkdoecbaaDoor
/-- The card, under a short name, for the claim. -/
theorem noticeTurns_holds : Rows.NoticeTurnsCardSaid := noticeTurns.card
end Go.Proofs.YtlbfmpjkdoecbaaDoor

