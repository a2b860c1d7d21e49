/- The row of NoticeReads: it answers true for every input. -/
import Derived.Test.YtlbfmpjkdoecbaaDoorReads
import Derived.Test.YtlbfmpjkdoecbaaDoorCards
import Derived.Test.YtlbfmpjkdoecbaaDoorTie
import Derived.Test.YtlbfmpjkdoecbaaDoorRows
import Derived.WalkKit
import Derived.ProofKit
import Derived.OpenShut
import Derived.ShutString
import Derived.ChangeOld
import Derived.Below
import Derived.SizedLaws
import Derived.Deep.DeepHandedRow
import Derived.Lib.LaidTab
import Derived.Test.YtlbfmpjkdoecbaaDoorWSized
namespace Go.Proofs.YtlbfmpjkdoecbaaDoor.noticeReads
open Go.ChangeShapes Go.WideShapes Go.ChangeAt Go.RowKit
open Go.ChangeMaps (open_string shut_string)
set_option linter.unusedVariables false
theorem own : ownKnob Tryd.prog.godebug = none := by kernel_rfl
theorem laidOut : laidOutB Tryd.prog = true := by kernel_rfl
def IsRow (k : IntKind) (w : World) (a : Option Addr) (len cap : Nat) (zs : List Int) : Prop :=
  (a = none ∧ len = 0 ∧ cap = 0 ∧ zs = []) ∨
  ∃ x, a = some x ∧ len ≤ cap ∧ cap ≤ maxLen ∧ zs.length = cap ∧ (∀ i, i < zs.length → w.cell? (x.add i) = some (.int k (zs.getD i 0))) ∧ ∀ n ∈ zs, (Lit.int k n).wf = true
theorem list_6 {α : Type} {l : List α} (h : l.length = 6) : ∃ x0 x1 x2 x3 x4 x5, l = [x0, x1, x2, x3, x4, x5] := by
  match l, h with
  | [x0, x1, x2, x3, x4, x5], _ => exact ⟨x0, x1, x2, x3, x4, x5, rfl⟩
open Go.Proofs.YtlbfmpjkdoecbaaDoorW.PrintWords
theorem row_in {k : IntKind} {w : World} {a : Option Addr} {len cap : Nat} {zs : List Int} (h : (a = none ∧ len = 0 ∧ cap = 0 ∧ zs = []) ∨
  ∃ x, a = some x ∧ len ≤ cap ∧ cap ≤ maxLen ∧ zs.length = cap ∧ (∀ i, i < zs.length → w.cell? (x.add i) = some (.int k (zs.getD i 0))) ∧ ∀ n ∈ zs, (Lit.int k n).wf = true) : RowIn k w a len (zs.take len) := by
  rcases h with ⟨rfl, rfl, rfl, rfl⟩ | ⟨x, rfl, h1, h2, h3, h4, h5⟩
  · exact ⟨rfl, by simp, fun i hi => by omega⟩
  · refine ⟨by simp; omega, fun n hn => h5 n (List.mem_of_mem_take hn), fun i hi => ⟨x, rfl, ?_⟩⟩
    rw [h4 i (by omega)]
    simp [List.getD_eq_getElem?_getD, hi]
theorem gTab : Tryd.prog.globalNamed "paybook/seal.quarter" = some 0 := by kernel_rfl
theorem gTabType : (Tryd.prog.globals[0]?).map (·.type) = some 59 := by kernel_rfl
theorem cellsT : Tryd.prog.cellsOf 59 = 16 := by kernel_rfl
theorem cellsE : Tryd.prog.cellsOf 31 = 1 := by kernel_rfl
theorem table {W : World} (h : laidMetH Tryd.prog Rows.noticeReadsRow.laid W) : Lib.TabIs Tryd.prog W "paybook/seal.quarter" .u32 PA.gl0 :=
  Lib.tabIs_of_head (rest := []) gTab gTabType Tryd.underlying59 Tryd.underlying31 cellsE cellsT h
theorem glob {W : World} (h : laidMetH Tryd.prog Rows.noticeReadsRow.laid W) : Kd.C (Kd.int .u32) W (some ⟨0, 0, none⟩) 16 PA.gl0 :=
  Kd.C_of_reads (d := (0 : Int)) (h1 := fun _ => rfl) ⟨rfl, by decide, fun _ => ⟨_, rfl, fun j hj => by rw [Go.Proofs.YtlbfmpjkdoecbaaDoorW.PrintWords.add_plain]; exact (table h).cell gTab j hj⟩⟩
noncomputable def laidWorld (os : Os) : World :=
  { World.holding Tryd.prog os ⟨#[], #[], []⟩ with heap := (World.holding Tryd.prog os ⟨#[], #[], []⟩).heap.modify 0 fun
      | .cells _ t frozen => .cells #[.int .u32 0, .int .u32 498536548, .int .u32 997073096, .int .u32 651767980, .int .u32 1994146192, .int .u32 1802195444, .int .u32 1303535960, .int .u32 1342533948, .int .u32 3988292384, .int .u32 4027552580, .int .u32 3604390888, .int .u32 3412177804, .int .u32 2607071920, .int .u32 2262029012, .int .u32 2685067896, .int .u32 3183342108] t frozen
      | o => o }
theorem laid_met (os : Os) : laidMet Tryd.prog Rows.noticeReadsRow.laid ((laidWorld os).forCall (fun _ _ => 0) ⟨#[], #[Value.slice none 0 0, (.agg #[.int .u8 0, .int .i64 0, .int .i64 0, .int .i64 0, .int .i64 0, .int .u8 0] : Value), Value.int .u8 0, Value.int .u8 0, Value.int .u8 0, Value.int .u8 0], []⟩).memory :=
  laidMet_of_run' 8 (by kernel_rfl) (by kernel_rfl)
theorem reads (os : Os) {H : Type} (enc : TypeId × Value → H) : ∃ places, DataW.whole enc Tryd.prog ((laidWorld os).forCall (fun _ _ => 0) ⟨#[], #[Value.slice none 0 0, (.agg #[.int .u8 0, .int .i64 0, .int .i64 0, .int .i64 0, .int .i64 0, .int .u8 0] : Value), Value.int .u8 0, Value.int .u8 0, Value.int .u8 0, Value.int .u8 0], []⟩).memory Tryd.f5.params.toList Rows.noticeReadsSpec.vars false (#[Value.slice none 0 0, (.agg #[.int .u8 0, .int .i64 0, .int .i64 0, .int .i64 0, .int .i64 0, .int .u8 0] : Value), Value.int .u8 0, Value.int .u8 0, Value.int .u8 0, Value.int .u8 0] : Array Value).toList 8 = some ([.nil, .agg [.lit (.int .u8 0), .lit (.int .i64 0), .lit (.int .i64 0), .lit (.int .i64 0), .lit (.int .i64 0), .lit (.int .u8 0)], .lit (.int .u8 0), .lit (.int .u8 0), .lit (.int .u8 0), .lit (.int .u8 0)], [], places) :=
  ⟨[], by kernel_rfl⟩
set_option maxRecDepth 100000 in
theorem lifted (os : Os) (started : os.Started) (H : Type) (enc : TypeId × Value → H) (F : Stop.Interp) :
    ReturnsInHanded {} Tryd.checked os 5 .any ((OpenSpec.ofChange Rows.noticeReadsSpec).preRow enc Tryd.prog Tryd.f5 Rows.noticeReadsRow.domain false Rows.noticeReadsRow.laid) (((OpenSpec.ofChange Rows.noticeReadsSpec).at F).post enc Tryd.prog Tryd.f5 false true false false) := by
  obtain ⟨places, hx⟩ := reads os enc
  refine returnsInHanded_of_row (C := Tryd.checked) (s := OpenSpec.ofChange Rows.noticeReadsSpec) own started (by kernel_rfl) Tryd.func5
    (witness_row_at (enc := enc) (C := Tryd.checked) false (laidWorld os) #[Value.slice none 0 0, (.agg #[.int .u8 0, .int .i64 0, .int .i64 0, .int .i64 0, .int .i64 0, .int .u8 0] : Value), Value.int .u8 0, Value.int .u8 0, Value.int .u8 0, Value.int .u8 0] rfl (by kernel_rfl) (by kernel_rfl) (by kernel_rfl)
      (OpenSpec.preRow_of_cond 8 hx (by kernel_rfl) (fun k hk => by cases hk) (by kernel_rfl) (laid_met os))) ?_
  intro W base args ds gs before hval0 hW0 hcnd _ hsz0 hL _ _
  show Calls Tryd.prog 5 args W fun e W' => ∃ v, e = .returned v ∧ Rows.noticeReadsSpec.post enc Tryd.prog Tryd.f5 false true false false W args v W'
  have hW : DataW.Whole enc Tryd.prog Tryd.f5.params.toList Rows.noticeReadsSpec.vars false W args.toList ds gs before := hW0
  have hsz : (DataW.weightsEach Tryd.prog (Tryd.f5.params.toList ++ Rows.noticeReadsSpec.plain.varTypes Tryd.prog) (ds ++ gs)).all (· ≤ reachBytes) = true := hsz0
  have hval : ∀ (j : Nat) t v, Tryd.f5.params[j]? = some t → args[j]? = some v → Value.okWide Tryd.prog W .any base t v := hval0
  have hW' := hW
  obtain ⟨p, q, hA0, hV, rfl, hfz, hnd⟩ := hW
  have hA : DataW.TrodAll enc Tryd.prog W 0 (fun _ => true) true Tryd.f5.params.toList args.toList ds p := hA0
  rw [Tryd.params5] at hA hval hsz
  obtain ⟨v0, vs0, d0, ds0, p0, q0, hargs, rfl, rfl, h0, r0⟩ := trodAll_cons hA
  obtain ⟨v1, vs1, d1, ds1, p1, q1, rfl, rfl, rfl, h1, r1⟩ := trodAll_cons r0
  obtain ⟨v2, vs2, d2, ds2, p2, q2, rfl, rfl, rfl, h2, r2⟩ := trodAll_cons r1
  obtain ⟨v3, vs3, d3, ds3, p3, q3, rfl, rfl, rfl, h3, r3⟩ := trodAll_cons r2
  obtain ⟨v4, vs4, d4, ds4, p4, q4, rfl, rfl, rfl, h4, r4⟩ := trodAll_cons r3
  obtain ⟨v5, vs5, d5, ds5, p5, q5, rfl, rfl, rfl, h5, r5⟩ := trodAll_cons r4
  obtain ⟨rfl, rfl, rfl⟩ := trodAll_nil r5
  obtain rfl : args = #[v0, v1, v2, v3, v4, v5] := by cases args; simp_all
  obtain ⟨rfl, rfl⟩ := trodVars_none hV
  obtain ⟨a0, len0, cap0, rfl⟩ := okWide_slice Tryd.underlying25 (hval 0 25 v0 rfl rfl)
  have k0 := h0
  have lt0 : ∀ x ∈ p0, x.block < W.heap.size := by obtain ⟨m, hm⟩ := k0; exact DataW.trod_lt m _ _ _ hm
  obtain ⟨z0, w0⟩ : ∃ zs, (a0 = none ∧ len0 = 0 ∧ cap0 = 0 ∧ zs = []) ∨ ∃ x, a0 = some x ∧ len0 ≤ cap0 ∧ cap0 ≤ maxLen ∧ zs.length = cap0 ∧ (∀ i, i < zs.length → W.cell? (x.add i) = some (.int .u8 (zs.getD i 0))) ∧ ∀ n ∈ zs, (Lit.int .u8 n).wf = true := by
    obtain ⟨fuel, hf⟩ := h0
    rcases open_ints Tryd.underlying25 Tryd.underlying5 (by kernel_rfl) hf with ⟨hcs, _⟩ | ⟨x, l, c, zs, hcs, _, hl, hm, hz, _, hcell, hwz⟩
    · simp [Value.cells] at hcs
      obtain ⟨rfl, rfl, rfl⟩ := hcs
      exact ⟨[], .inl ⟨rfl, rfl, rfl, rfl⟩⟩
    · simp [Value.cells] at hcs
      obtain ⟨rfl, rfl, rfl⟩ := hcs
      exact ⟨zs, .inr ⟨_, rfl, hl, hm, by simpa using hz, hcell, hwz⟩⟩
  have row0 := row_in w0
  have y0 : len0 * 1 ≤ 140737488351232 := Go.Proofs.YtlbfmpjkdoecbaaDoorW.PrintWords.sized_ints hsz (j := 0) (t := 25) rfl rfl Tryd.underlying25 Tryd.underlying5 (by kernel_rfl) (by kernel_rfl) h0
  obtain ⟨cs1, rfl, hz1⟩ := okWide_struct Tryd.underlying23 (hval 1 23 v1 rfl rfl)
  obtain ⟨l1⟩ := cs1
  obtain ⟨c1_0, c1_1, c1_2, c1_3, c1_4, c1_5, rfl⟩ := list_6 (show l1.length = 6 from hz1.trans (by kernel_rfl))
  have k1 := h1
  have lt1 : ∀ x ∈ p1, x.block < W.heap.size := by obtain ⟨m, hm⟩ := k1; exact DataW.trod_lt m _ _ _ hm
  obtain ⟨fu1, hf1⟩ := h1
  obtain ⟨xss1, ns1, _, _, _, hls1, hgs1⟩ := DataW.trod_struct Tryd.underlying23 (show DataW.trod enc Tryd.prog W 0 (fun _ => true) true fu1 23 [c1_0, c1_1, c1_2, c1_3, c1_4, c1_5] = some _ from hf1)
  have es1_0 := hgs1 0 _ rfl
  obtain ⟨yes1_0, zes1_0⟩ : ∃ y, xss1[0]? = some y := ⟨_, List.getElem?_eq_getElem (by rw [hls1]; decide)⟩
  replace es1_0 : DataW.trod enc Tryd.prog W 0 (fun _ => true) true ns1 5 (List.take (Tryd.prog.cellsOf 5) (List.drop 0 _)) = xss1[0]? := es1_0
  rw [zes1_0, show Tryd.prog.cellsOf 5 = 1 from by kernel_rfl] at es1_0
  replace es1_0 : DataW.trod enc Tryd.prog W 0 (fun _ => true) true ns1 5 [c1_0] = some yes1_0 := es1_0
  obtain ⟨a1_0, ha_, _, w1_0⟩ := DataW.trod_int Tryd.underlying5 es1_0
  obtain rfl : c1_0 = .int .u8 a1_0 := by simpa using ha_
  have es1_1 := hgs1 1 _ rfl
  obtain ⟨yes1_1, zes1_1⟩ : ∃ y, xss1[1]? = some y := ⟨_, List.getElem?_eq_getElem (by rw [hls1]; decide)⟩
  replace es1_1 : DataW.trod enc Tryd.prog W 0 (fun _ => true) true ns1 3 (List.take (Tryd.prog.cellsOf 3) (List.drop 1 _)) = xss1[1]? := es1_1
  rw [zes1_1, show Tryd.prog.cellsOf 3 = 1 from by kernel_rfl] at es1_1
  replace es1_1 : DataW.trod enc Tryd.prog W 0 (fun _ => true) true ns1 3 [c1_1] = some yes1_1 := es1_1
  obtain ⟨a1_1, ha_, _, w1_1⟩ := DataW.trod_int Tryd.underlying3 es1_1
  obtain rfl : c1_1 = .int .i64 a1_1 := by simpa using ha_
  have es1_2 := hgs1 2 _ rfl
  obtain ⟨yes1_2, zes1_2⟩ : ∃ y, xss1[2]? = some y := ⟨_, List.getElem?_eq_getElem (by rw [hls1]; decide)⟩
  replace es1_2 : DataW.trod enc Tryd.prog W 0 (fun _ => true) true ns1 3 (List.take (Tryd.prog.cellsOf 3) (List.drop 2 _)) = xss1[2]? := es1_2
  rw [zes1_2, show Tryd.prog.cellsOf 3 = 1 from by kernel_rfl] at es1_2
  replace es1_2 : DataW.trod enc Tryd.prog W 0 (fun _ => true) true ns1 3 [c1_2] = some yes1_2 := es1_2
  obtain ⟨a1_2, ha_, _, w1_2⟩ := DataW.trod_int Tryd.underlying3 es1_2
  obtain rfl : c1_2 = .int .i64 a1_2 := by simpa using ha_
  have es1_3 := hgs1 3 _ rfl
  obtain ⟨yes1_3, zes1_3⟩ : ∃ y, xss1[3]? = some y := ⟨_, List.getElem?_eq_getElem (by rw [hls1]; decide)⟩
  replace es1_3 : DataW.trod enc Tryd.prog W 0 (fun _ => true) true ns1 3 (List.take (Tryd.prog.cellsOf 3) (List.drop 3 _)) = xss1[3]? := es1_3
  rw [zes1_3, show Tryd.prog.cellsOf 3 = 1 from by kernel_rfl] at es1_3
  replace es1_3 : DataW.trod enc Tryd.prog W 0 (fun _ => true) true ns1 3 [c1_3] = some yes1_3 := es1_3
  obtain ⟨a1_3, ha_, _, w1_3⟩ := DataW.trod_int Tryd.underlying3 es1_3
  obtain rfl : c1_3 = .int .i64 a1_3 := by simpa using ha_
  have es1_4 := hgs1 4 _ rfl
  obtain ⟨yes1_4, zes1_4⟩ : ∃ y, xss1[4]? = some y := ⟨_, List.getElem?_eq_getElem (by rw [hls1]; decide)⟩
  replace es1_4 : DataW.trod enc Tryd.prog W 0 (fun _ => true) true ns1 2 (List.take (Tryd.prog.cellsOf 2) (List.drop 4 _)) = xss1[4]? := es1_4
  rw [zes1_4, show Tryd.prog.cellsOf 2 = 1 from by kernel_rfl] at es1_4
  replace es1_4 : DataW.trod enc Tryd.prog W 0 (fun _ => true) true ns1 2 [c1_4] = some yes1_4 := es1_4
  obtain ⟨a1_4, ha_, _, w1_4⟩ := DataW.trod_int Tryd.underlying2 es1_4
  obtain rfl : c1_4 = .int .i64 a1_4 := by simpa using ha_
  have es1_5 := hgs1 5 _ rfl
  obtain ⟨yes1_5, zes1_5⟩ : ∃ y, xss1[5]? = some y := ⟨_, List.getElem?_eq_getElem (by rw [hls1]; decide)⟩
  replace es1_5 : DataW.trod enc Tryd.prog W 0 (fun _ => true) true ns1 5 (List.take (Tryd.prog.cellsOf 5) (List.drop 5 _)) = xss1[5]? := es1_5
  rw [zes1_5, show Tryd.prog.cellsOf 5 = 1 from by kernel_rfl] at es1_5
  replace es1_5 : DataW.trod enc Tryd.prog W 0 (fun _ => true) true ns1 5 [c1_5] = some yes1_5 := es1_5
  obtain ⟨a1_5, ha_, _, w1_5⟩ := DataW.trod_int Tryd.underlying5 es1_5
  obtain rfl : c1_5 = .int .u8 a1_5 := by simpa using ha_
  obtain ⟨a2, rfl, rfl, rfl, w2⟩ := open_int Tryd.underlying5 (hval 2 5 v2 rfl rfl) h2
  obtain ⟨a3, rfl, rfl, rfl, w3⟩ := open_int Tryd.underlying5 (hval 3 5 v3 rfl rfl) h3
  obtain ⟨a4, rfl, rfl, rfl, w4⟩ := open_int Tryd.underlying5 (hval 4 5 v4 rfl rfl) h4
  obtain ⟨a5, rfl, rfl, rfl, w5⟩ := open_int Tryd.underlying5 (hval 5 5 v5 rfl rfl) h5
  clear hA0 hval0 hsz0 hsz
  refine (reads_any a1_0 a1_1 a1_2 a1_3 a1_4 a1_5 a2 a3 a4 a5 a0 len0 cap0 z0 W w1_0 w1_5 w2 w3 w4 w5 w0 (glob hL)).mono fun e W' ⟨he, bel⟩ => ?_
  subst he
  exact ⟨_, rfl, _, _, _, [], _, [], hW', trodAll_mk1 (shut_bool Tryd.underlying4 _), (trodAll_cons_mk (Below.trod laidOut (by kernel_rfl) (of_decide_eq_true (by kernel_rfl)) k0 bel lt0) (trodAll_cons_mk (Below.trod laidOut (by kernel_rfl) (of_decide_eq_true (by kernel_rfl)) k1 bel lt1) (trodAll_cons_mk (shut_int Tryd.underlying5 w2) (trodAll_cons_mk (shut_int Tryd.underlying5 w3) (trodAll_cons_mk (shut_int Tryd.underlying5 w4) (trodAll_cons_mk (shut_int Tryd.underlying5 w5) trodAll_mk0)))))), rfl, bel.frame _, fun h => by cases h⟩
theorem said : Rows.NoticeReadsSaid :=
  OpenClaim.holds_of_cond 5 Tryd.f5 rfl rfl rfl rfl rfl rfl rfl ⟨rfl, rfl, rfl, rfl, rfl⟩ rfl rfl rfl rfl rfl (by kernel_rfl) Tryd.func5 (by kernel_rfl)
    (of_decide_eq_true (by kernel_rfl)) (by unfold Func.isWrapper; first | (rw [if_pos (by decide +kernel)]; kernel_rfl) | (rw [if_neg (by decide +kernel)]; exact ⟨rfl, rfl⟩))
    (fun os started H enc _ F => by rw [OpenClaim.pre_eq_preRow]; exact lifted os started H enc F)
theorem plain (f : FuncId) (fn : Func) (hf : Tryd.pinned.checked.prog.funcNamed "paybook/paybooklaw11.NoticeReads" = some f) (hfn : Tryd.pinned.checked.prog.funcs[f]? = some fn) :
    false = Tryd.pinned.checked.prog.looks [] ∧ ∀ (j : Nat) t, fn.params[j]? = some t → Tryd.pinned.checked.prog.wantsStandIn t = false := by
  obtain rfl : f = 5 := Option.some.inj ((show Tryd.prog.funcNamed "paybook/paybooklaw11.NoticeReads" = some 5 by kernel_rfl).symm.trans hf) |>.symm
  obtain rfl : fn = Tryd.f5 := (Option.some.inj (Tryd.func5.symm.trans hfn)).symm
  refine ⟨by kernel_rfl, fun j t ht => ?_⟩
  have hall : (Tryd.f5.params.toList.all fun t => Tryd.prog.wantsStandIn t == false) = true := by kernel_rfl
  have hm := List.all_eq_true.1 hall t (Array.mem_toList_iff.2 (Array.mem_of_getElem? ht))
  exact (beq_iff_eq.1 hm)
theorem card : Rows.NoticeReadsCardSaid :=
  Claim7.holds_tied_plain_at .later [] _ _ _ _ said (fun _ h => by cases h) (by kernel_rfl) (fun _ h => by cases h) noticeReads_row_tie rfl ⟨rfl, rfl⟩ (by kernel_rfl) rfl plain (by kernel_rfl)
#print axioms card
end Go.Proofs.YtlbfmpjkdoecbaaDoor.noticeReads
namespace Go.Proofs.YtlbfmpjkdoecbaaDoor
/-- The card, under a short name, for the claim. -/
theorem noticeReads_holds : Rows.NoticeReadsCardSaid := noticeReads.card
end Go.Proofs.YtlbfmpjkdoecbaaDoor

