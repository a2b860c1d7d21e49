-- printed by this workplace: wip/patchprint.py over the kit's print
import Derived.Test.YtlbfmpjkdoecbaaDoorCards
import Derived.Test.YtlbfmpjkdoecbaaDoorTie
import Derived.Test.YtlbfmpjkdoecbaaDoorRows
import Derived.Test.YtlbfmpjkdoecbaaDoorPAx23
import Derived.Test.YtlbfmpjkdoecbaaDoorPureNoticeBytes
import Derived.WalkKit
import Derived.ProofKit
import Derived.OpenShut
import Derived.ShutString
import Derived.ChangeOld
import Derived.Below
import Derived.SizedLaws
import Derived.Deep.DeepHandedRow
import Derived.Lib.LaidTab
import Derived.Test.YtlbfmpjkdoecbaaDoorWSized
namespace Go.Proofs.YtlbfmpjkdoecbaaDoor.noticeBytes
open Go.ChangeShapes Go.WideShapes Go.ChangeAt Go.RowKit
open Go.ChangeMaps (open_string shut_string)
set_option linter.unusedVariables false
theorem own : ownKnob Tryd.prog.godebug = none := by kernel_rfl
theorem laidOut : laidOutB Tryd.prog = true := by kernel_rfl
def IsRow (k : IntKind) (w : World) (a : Option Addr) (len cap : Nat) (zs : List Int) : Prop :=
  (a = none ∧ len = 0 ∧ cap = 0 ∧ zs = []) ∨
  ∃ x, a = some x ∧ len ≤ cap ∧ cap ≤ maxLen ∧ zs.length = cap ∧ (∀ i, i < zs.length → w.cell? (x.add i) = some (.int k (zs.getD i 0))) ∧ ∀ n ∈ zs, (Lit.int k n).wf = true
theorem list_6 {α : Type} {l : List α} (h : l.length = 6) : ∃ x0 x1 x2 x3 x4 x5, l = [x0, x1, x2, x3, x4, x5] := by
  match l, h with
  | [x0, x1, x2, x3, x4, x5], _ => exact ⟨x0, x1, x2, x3, x4, x5, rfl⟩
open Go.Proofs.YtlbfmpjkdoecbaaDoorW.PrintWords
theorem gTab : Tryd.prog.globalNamed "paybook/seal.quarter" = some 0 := by kernel_rfl
theorem gTabType : (Tryd.prog.globals[0]?).map (·.type) = some 59 := by kernel_rfl
theorem cellsT : Tryd.prog.cellsOf 59 = 16 := by kernel_rfl
theorem cellsE : Tryd.prog.cellsOf 31 = 1 := by kernel_rfl
theorem table {W : World} (h : laidMetH Tryd.prog Rows.noticeBytesRow.laid W) : Lib.TabIs Tryd.prog W "paybook/seal.quarter" .u32 PA.gl0 :=
  Lib.tabIs_of_head (rest := []) gTab gTabType Tryd.underlying59 Tryd.underlying31 cellsE cellsT h
theorem glob {W : World} (h : laidMetH Tryd.prog Rows.noticeBytesRow.laid W) : Kd.C (Kd.int .u32) W (some ⟨0, 0, none⟩) 16 PA.gl0 :=
  Kd.C_of_reads (d := (0 : Int)) (h1 := fun _ => rfl) ⟨rfl, by decide, fun _ => ⟨_, rfl, fun j hj => by rw [Go.Proofs.YtlbfmpjkdoecbaaDoorW.PrintWords.add_plain]; exact (table h).cell gTab j hj⟩⟩
noncomputable def laidWorld (os : Os) : World :=
  { World.holding Tryd.prog os ⟨#[], #[], []⟩ with heap := (World.holding Tryd.prog os ⟨#[], #[], []⟩).heap.modify 0 fun
      | .cells _ t frozen => .cells #[.int .u32 0, .int .u32 498536548, .int .u32 997073096, .int .u32 651767980, .int .u32 1994146192, .int .u32 1802195444, .int .u32 1303535960, .int .u32 1342533948, .int .u32 3988292384, .int .u32 4027552580, .int .u32 3604390888, .int .u32 3412177804, .int .u32 2607071920, .int .u32 2262029012, .int .u32 2685067896, .int .u32 3183342108] t frozen
      | o => o }
theorem laid_met (os : Os) : laidMet Tryd.prog Rows.noticeBytesRow.laid ((laidWorld os).forCall (fun _ _ => 0) ⟨#[], #[(.agg #[.int .u8 0, .int .i64 0, .int .i64 0, .int .i64 0, .int .i64 0, .int .u8 0] : Value)], []⟩).memory :=
  laidMet_of_run' 8 (by kernel_rfl) (by kernel_rfl)
theorem reads (os : Os) {H : Type} (enc : TypeId × Value → H) : ∃ places, DataW.whole enc Tryd.prog ((laidWorld os).forCall (fun _ _ => 0) ⟨#[], #[(.agg #[.int .u8 0, .int .i64 0, .int .i64 0, .int .i64 0, .int .i64 0, .int .u8 0] : Value)], []⟩).memory Tryd.f3.params.toList Rows.noticeBytesSpec.vars false (#[(.agg #[.int .u8 0, .int .i64 0, .int .i64 0, .int .i64 0, .int .i64 0, .int .u8 0] : Value)] : Array Value).toList 8 = some ([.agg [.lit (.int .u8 0), .lit (.int .i64 0), .lit (.int .i64 0), .lit (.int .i64 0), .lit (.int .i64 0), .lit (.int .u8 0)]], [], places) :=
  ⟨[], by kernel_rfl⟩
set_option maxRecDepth 100000 in
theorem lifted (os : Os) (started : os.Started) (H : Type) (enc : TypeId × Value → H) (F : Stop.Interp) :
    ReturnsInHanded {} Tryd.checked os 3 .any ((OpenSpec.ofChange Rows.noticeBytesSpec).preRow enc Tryd.prog Tryd.f3 Rows.noticeBytesRow.domain false Rows.noticeBytesRow.laid) (((OpenSpec.ofChange Rows.noticeBytesSpec).at F).post enc Tryd.prog Tryd.f3 false true false false) := by
  obtain ⟨places, hx⟩ := reads os enc
  refine returnsInHanded_of_row (C := Tryd.checked) (s := OpenSpec.ofChange Rows.noticeBytesSpec) own started (by kernel_rfl) Tryd.func3
    (witness_row_at (enc := enc) (C := Tryd.checked) false (laidWorld os) #[(.agg #[.int .u8 0, .int .i64 0, .int .i64 0, .int .i64 0, .int .i64 0, .int .u8 0] : Value)] rfl (by kernel_rfl) (by kernel_rfl) (by kernel_rfl)
      (OpenSpec.preRow_of_cond 8 hx (by kernel_rfl) (fun k hk => by cases hk) (by kernel_rfl) (laid_met os))) ?_
  intro W base args ds gs before hval0 hW0 hcnd _ hsz0 hL _ _
  show Calls Tryd.prog 3 args W fun e W' => ∃ v, e = .returned v ∧ Rows.noticeBytesSpec.post enc Tryd.prog Tryd.f3 false true false false W args v W'
  have hW : DataW.Whole enc Tryd.prog Tryd.f3.params.toList Rows.noticeBytesSpec.vars false W args.toList ds gs before := hW0
  have hsz : (DataW.weightsEach Tryd.prog (Tryd.f3.params.toList ++ Rows.noticeBytesSpec.plain.varTypes Tryd.prog) (ds ++ gs)).all (· ≤ reachBytes) = true := hsz0
  have hval : ∀ (j : Nat) t v, Tryd.f3.params[j]? = some t → args[j]? = some v → Value.okWide Tryd.prog W .any base t v := hval0
  have hW' := hW
  obtain ⟨p, q, hA0, hV, rfl, hfz, hnd⟩ := hW
  have hA : DataW.TrodAll enc Tryd.prog W 0 (fun _ => true) true Tryd.f3.params.toList args.toList ds p := hA0
  rw [Tryd.params3] at hA hval hsz
  obtain ⟨v0, vs0, d0, ds0, p0, q0, hargs, rfl, rfl, h0, r0⟩ := trodAll_cons hA
  obtain ⟨rfl, rfl, rfl⟩ := trodAll_nil r0
  obtain rfl : args = #[v0] := by cases args; simp_all
  obtain ⟨rfl, rfl⟩ := trodVars_none hV
  obtain ⟨cs0, rfl, hz0⟩ := okWide_struct Tryd.underlying23 (hval 0 23 v0 rfl rfl)
  obtain ⟨l0⟩ := cs0
  obtain ⟨c0_0, c0_1, c0_2, c0_3, c0_4, c0_5, rfl⟩ := list_6 (show l0.length = 6 from hz0.trans (by kernel_rfl))
  have k0 := h0
  have lt0 : ∀ x ∈ p0, x.block < W.heap.size := by obtain ⟨m, hm⟩ := k0; exact DataW.trod_lt m _ _ _ hm
  obtain ⟨fu0, hf0⟩ := h0
  obtain ⟨xss0, ns0, _, _, _, hls0, hgs0⟩ := DataW.trod_struct Tryd.underlying23 (show DataW.trod enc Tryd.prog W 0 (fun _ => true) true fu0 23 [c0_0, c0_1, c0_2, c0_3, c0_4, c0_5] = some _ from hf0)
  have es0_0 := hgs0 0 _ rfl
  obtain ⟨yes0_0, zes0_0⟩ : ∃ y, xss0[0]? = some y := ⟨_, List.getElem?_eq_getElem (by rw [hls0]; decide)⟩
  replace es0_0 : DataW.trod enc Tryd.prog W 0 (fun _ => true) true ns0 5 (List.take (Tryd.prog.cellsOf 5) (List.drop 0 _)) = xss0[0]? := es0_0
  rw [zes0_0, show Tryd.prog.cellsOf 5 = 1 from by kernel_rfl] at es0_0
  replace es0_0 : DataW.trod enc Tryd.prog W 0 (fun _ => true) true ns0 5 [c0_0] = some yes0_0 := es0_0
  obtain ⟨a0_0, ha_, _, w0_0⟩ := DataW.trod_int Tryd.underlying5 es0_0
  obtain rfl : c0_0 = .int .u8 a0_0 := by simpa using ha_
  have es0_1 := hgs0 1 _ rfl
  obtain ⟨yes0_1, zes0_1⟩ : ∃ y, xss0[1]? = some y := ⟨_, List.getElem?_eq_getElem (by rw [hls0]; decide)⟩
  replace es0_1 : DataW.trod enc Tryd.prog W 0 (fun _ => true) true ns0 3 (List.take (Tryd.prog.cellsOf 3) (List.drop 1 _)) = xss0[1]? := es0_1
  rw [zes0_1, show Tryd.prog.cellsOf 3 = 1 from by kernel_rfl] at es0_1
  replace es0_1 : DataW.trod enc Tryd.prog W 0 (fun _ => true) true ns0 3 [c0_1] = some yes0_1 := es0_1
  obtain ⟨a0_1, ha_, _, w0_1⟩ := DataW.trod_int Tryd.underlying3 es0_1
  obtain rfl : c0_1 = .int .i64 a0_1 := by simpa using ha_
  have es0_2 := hgs0 2 _ rfl
  obtain ⟨yes0_2, zes0_2⟩ : ∃ y, xss0[2]? = some y := ⟨_, List.getElem?_eq_getElem (by rw [hls0]; decide)⟩
  replace es0_2 : DataW.trod enc Tryd.prog W 0 (fun _ => true) true ns0 3 (List.take (Tryd.prog.cellsOf 3) (List.drop 2 _)) = xss0[2]? := es0_2
  rw [zes0_2, show Tryd.prog.cellsOf 3 = 1 from by kernel_rfl] at es0_2
  replace es0_2 : DataW.trod enc Tryd.prog W 0 (fun _ => true) true ns0 3 [c0_2] = some yes0_2 := es0_2
  obtain ⟨a0_2, ha_, _, w0_2⟩ := DataW.trod_int Tryd.underlying3 es0_2
  obtain rfl : c0_2 = .int .i64 a0_2 := by simpa using ha_
  have es0_3 := hgs0 3 _ rfl
  obtain ⟨yes0_3, zes0_3⟩ : ∃ y, xss0[3]? = some y := ⟨_, List.getElem?_eq_getElem (by rw [hls0]; decide)⟩
  replace es0_3 : DataW.trod enc Tryd.prog W 0 (fun _ => true) true ns0 3 (List.take (Tryd.prog.cellsOf 3) (List.drop 3 _)) = xss0[3]? := es0_3
  rw [zes0_3, show Tryd.prog.cellsOf 3 = 1 from by kernel_rfl] at es0_3
  replace es0_3 : DataW.trod enc Tryd.prog W 0 (fun _ => true) true ns0 3 [c0_3] = some yes0_3 := es0_3
  obtain ⟨a0_3, ha_, _, w0_3⟩ := DataW.trod_int Tryd.underlying3 es0_3
  obtain rfl : c0_3 = .int .i64 a0_3 := by simpa using ha_
  have es0_4 := hgs0 4 _ rfl
  obtain ⟨yes0_4, zes0_4⟩ : ∃ y, xss0[4]? = some y := ⟨_, List.getElem?_eq_getElem (by rw [hls0]; decide)⟩
  replace es0_4 : DataW.trod enc Tryd.prog W 0 (fun _ => true) true ns0 2 (List.take (Tryd.prog.cellsOf 2) (List.drop 4 _)) = xss0[4]? := es0_4
  rw [zes0_4, show Tryd.prog.cellsOf 2 = 1 from by kernel_rfl] at es0_4
  replace es0_4 : DataW.trod enc Tryd.prog W 0 (fun _ => true) true ns0 2 [c0_4] = some yes0_4 := es0_4
  obtain ⟨a0_4, ha_, _, w0_4⟩ := DataW.trod_int Tryd.underlying2 es0_4
  obtain rfl : c0_4 = .int .i64 a0_4 := by simpa using ha_
  have es0_5 := hgs0 5 _ rfl
  obtain ⟨yes0_5, zes0_5⟩ : ∃ y, xss0[5]? = some y := ⟨_, List.getElem?_eq_getElem (by rw [hls0]; decide)⟩
  replace es0_5 : DataW.trod enc Tryd.prog W 0 (fun _ => true) true ns0 5 (List.take (Tryd.prog.cellsOf 5) (List.drop 5 _)) = xss0[5]? := es0_5
  rw [zes0_5, show Tryd.prog.cellsOf 5 = 1 from by kernel_rfl] at es0_5
  replace es0_5 : DataW.trod enc Tryd.prog W 0 (fun _ => true) true ns0 5 [c0_5] = some yes0_5 := es0_5
  obtain ⟨a0_5, ha_, _, w0_5⟩ := DataW.trod_int Tryd.underlying5 es0_5
  obtain rfl : c0_5 = .int .u8 a0_5 := by simpa using ha_
  clear hA0 hval0 hsz0 hsz
  refine (PA.paybooklaw11_NoticeBytes.walk Pure.NoticeBytes a0_0 a0_1 a0_2 a0_3 a0_4 a0_5 W w0_0 w0_1 w0_2 w0_3 w0_4 w0_5 (glob hL)).mono fun e W' ⟨he, bel⟩ => ?_
  subst he
  exact ⟨_, rfl, _, _, _, [], _, [], hW', trodAll_mk1 (shut_bool Tryd.underlying4 _), (trodAll_cons_mk (Below.trod laidOut (by kernel_rfl) (of_decide_eq_true (by kernel_rfl)) k0 bel lt0) trodAll_mk0), rfl, bel.frame _, fun h => by cases h⟩
theorem said : Rows.NoticeBytesSaid :=
  OpenClaim.holds_of_cond 3 Tryd.f3 rfl rfl rfl rfl rfl rfl rfl ⟨rfl, rfl, rfl, rfl, rfl⟩ rfl rfl rfl rfl rfl (by kernel_rfl) Tryd.func3 (by kernel_rfl)
    (of_decide_eq_true (by kernel_rfl)) (by unfold Func.isWrapper; first | (rw [if_pos (by decide +kernel)]; kernel_rfl) | (rw [if_neg (by decide +kernel)]; exact ⟨rfl, rfl⟩))
    (fun os started H enc _ F => by rw [OpenClaim.pre_eq_preRow]; exact lifted os started H enc F)
theorem plain (f : FuncId) (fn : Func) (hf : Tryd.pinned.checked.prog.funcNamed "paybook/paybooklaw11.NoticeBytes" = some f) (hfn : Tryd.pinned.checked.prog.funcs[f]? = some fn) :
    false = Tryd.pinned.checked.prog.looks [] ∧ ∀ (j : Nat) t, fn.params[j]? = some t → Tryd.pinned.checked.prog.wantsStandIn t = false := by
  obtain rfl : f = 3 := Option.some.inj ((show Tryd.prog.funcNamed "paybook/paybooklaw11.NoticeBytes" = some 3 by kernel_rfl).symm.trans hf) |>.symm
  obtain rfl : fn = Tryd.f3 := (Option.some.inj (Tryd.func3.symm.trans hfn)).symm
  refine ⟨by kernel_rfl, fun j t ht => ?_⟩
  have hall : (Tryd.f3.params.toList.all fun t => Tryd.prog.wantsStandIn t == false) = true := by kernel_rfl
  have hm := List.all_eq_true.1 hall t (Array.mem_toList_iff.2 (Array.mem_of_getElem? ht))
  exact (beq_iff_eq.1 hm)
theorem card : Rows.NoticeBytesCardSaid :=
  Claim7.holds_tied_plain_at .later [] _ _ _ _ said (fun _ h => by cases h) (by kernel_rfl) (fun _ h => by cases h) noticeBytes_row_tie rfl ⟨rfl, rfl⟩ (by kernel_rfl) rfl plain (by kernel_rfl)
#print axioms card
end Go.Proofs.YtlbfmpjkdoecbaaDoor.noticeBytes
namespace Go.Proofs.YtlbfmpjkdoecbaaDoor
/-- The card, under a short name, for the claim. -/
theorem noticeBytes_holds : Rows.NoticeBytesCardSaid := noticeBytes.card
end Go.Proofs.YtlbfmpjkdoecbaaDoor
