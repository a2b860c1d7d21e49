-- printed by this workplace: wip/patchprint.py over the kit's print
import Derived.Test.YtlihgjonmliodaaPAx0
import Derived.Test.YtlihgjonmliodaaPAx1
import Derived.Test.YtlihgjonmliodaaPAx3
import Derived.Test.YtlihgjonmliodaaPAx10
import Derived.Test.YtlihgjonmliodaaPAx12
import Derived.Test.YtlihgjonmliodaaPAx16
import Derived.Test.YtlihgjonmliodaaPAx21
import Derived.Test.YtlihgjonmliodaaPAx23
import Derived.Test.YtlihgjonmliodaaPAx24
namespace Go.Proofs.Ytlihgjonmliodaa.PA
open Go.RowKit Go.Proofs.YtlihgjonmliodaaW.PrintWords Go.Proofs.YtlihgjonmliodaaW.PrintLast Go.Proofs.YtlihgjonmliodaaW.PrintMore
attribute [local go_sem] max2_int min2_int max_two min_two max_three min_three max_four min_four   -- for this text's walks alone
set_option linter.unusedVariables false
set_option linter.unusedSimpArgs false

attribute [local go_sem high] eqA25
/-! ### paybooklaw10_OrderNotices: function 6 -/
mutual
def paybooklaw10_OrderNotices.j0 : Nat → Bool → List Int → Bool → Int → Int → Int → Int → Int → Int → Option (Bool)
 | 0, _, _, _, _, _, _, _, _, _ => none
 | k + 1, x1, x2, x18, x429000, x429001, x429002, x429003, x429004, x429005 => if x18 = true then ((paybooklaw10_awake.f k).bind fun t430 => (some t430)) else ((paybooklaw10_notice.f x429000 x429001 x429002 x429003 x429004 x429005).bind fun bt431 => (if x1 = true then (paybooklaw10_OrderNotices.j1 k x2 bt431.1 bt431.2.1 bt431.2.2.1 bt431.2.2.2.1 bt431.2.2.2.2.1 0) else (paybooklaw10_OrderNotices.j1 k x2 bt431.1 bt431.2.1 bt431.2.2.1 bt431.2.2.2.1 bt431.2.2.2.2.1 bt431.2.2.2.2.2)))
def paybooklaw10_OrderNotices.j1 : Nat → List Int → Int → Int → Int → Int → Int → Int → Option (Bool)
 | 0, _, _, _, _, _, _, _ => none
 | k + 1, x2, x429000, x429001, x429002, x429003, x429004, x429005 => (pack_New.f).bind fun bt437 => ((order_Put.f k bt437.1 bt437.2 x429000 x429001 x429002 x429003 x429004 x429005).bind fun bt442 => ((pack_Box_Done.f bt442.1 bt442.2).bind fun bt446 => ((pack_Of.f bt446.1).bind fun bt453 => ((pack_Of.f x2).bind fun bt458 => ((order_Get.f k bt458.1 bt458.2).bind fun bt463 => ((pack_Box_Fault.f bt463.2.2.2.2.2.2.1 bt463.2.2.2.2.2.2.2).bind fun bt474 => ((order_Get.f k bt453.1 bt453.2).bind fun bt479 => (if (bt479.1 == x429000 && (bt479.2.1 == x429001 && (bt479.2.2.1 == x429002 && (bt479.2.2.2.1 == x429003 && (bt479.2.2.2.2.1 == x429004 && (bt479.2.2.2.2.2.1 == x429005)))))) = true then ((pack_Box_End.f bt479.2.2.2.2.2.2.1 bt479.2.2.2.2.2.2.2).bind fun bt489 => (if bt489.1 = 0 then (if bt474.1 = 0 then ((paybooklaw10_key.f bt463.1 bt463.2.1 bt463.2.2.1 bt463.2.2.2.1 bt463.2.2.2.2.1 bt463.2.2.2.2.2.1).bind fun t494 => (if t494 = true then (if bt463.1 ≥ 1 then (if bt463.1 ≤ 5 then (some (decide (bt463.2.2.2.2.2.1 ≤ 3))) else (some false)) else (some false)) else (some false))) else (some true)) else (some false))) else (some false)))))))))
end
def paybooklaw10_OrderNotices.f (k : Nat) (a0_0 : Int) (a0_1 : Int) (a0_2 : Int) (a0_3 : Int) (a0_4 : Int) (a0_5 : Int) (a1 : Bool) (l2 : List Int) : Option (Bool) := (paybooklaw10_awake.f k).bind fun t429 => (if t429 = true then (paybooklaw10_OrderNotices.j0 k a1 l2 (decide ((l2.length : Int) > 50)) a0_0 a0_1 a0_2 a0_3 a0_4 a0_5) else (paybooklaw10_OrderNotices.j0 k a1 l2 true a0_0 a0_1 a0_2 a0_3 a0_4 a0_5))
theorem paybooklaw10_OrderNotices.mono_l : ∀ k, (∀ y0 y1 y2 y3 y4 y5 y6 y7 y8, LeO (paybooklaw10_OrderNotices.j0 k y0 y1 y2 y3 y4 y5 y6 y7 y8) (paybooklaw10_OrderNotices.j0 (k + 1) y0 y1 y2 y3 y4 y5 y6 y7 y8)) ∧ (∀ y0 y1 y2 y3 y4 y5 y6, LeO (paybooklaw10_OrderNotices.j1 k y0 y1 y2 y3 y4 y5 y6) (paybooklaw10_OrderNotices.j1 (k + 1) y0 y1 y2 y3 y4 y5 y6))
 | 0 => ⟨fun _ _ _ _ _ _ _ _ _ r h => by simp [paybooklaw10_OrderNotices.j0] at h, fun _ _ _ _ _ _ _ r h => by simp [paybooklaw10_OrderNotices.j1] at h⟩
 | k + 1 => by
  obtain ⟨ih0, ih1⟩ := paybooklaw10_OrderNotices.mono_l k
  refine ⟨?_, ?_⟩
  ·intro y0 y1 y2 y3 y4 y5 y6 y7 y8
   unfold paybooklaw10_OrderNotices.j0
   repeat' first
   | (with_reducible exact ih0 _ _ _ _ _ _ _ _ _)
   | (with_reducible exact ih1 _ _ _ _ _ _ _)
   | (with_reducible exact order_Get.mono _ _ _)
   | (with_reducible exact order_Put.mono _ _ _ _ _ _ _ _ _)
   | (with_reducible exact paybooklaw10_awake.mono _)
   | (with_reducible exact LeO.refl _)
   | (with_reducible exact LeO.none _)
   | (with_reducible refine LeO.ite ?_ ?_)
   | (with_reducible refine LeO.bind ?_ (fun _ => ?_))
   | exact ih0 _ _ _ _ _ _ _ _ _
   | exact ih1 _ _ _ _ _ _ _
   | exact order_Get.mono _ _ _
   | exact order_Put.mono _ _ _ _ _ _ _ _ _
   | exact paybooklaw10_awake.mono _
   | exact LeO.none _
   | refine LeO.ite ?_ ?_
   | refine LeO.bind ?_ (fun _ => ?_)
  ·intro y0 y1 y2 y3 y4 y5 y6
   unfold paybooklaw10_OrderNotices.j1
   repeat' first
   | (with_reducible exact ih0 _ _ _ _ _ _ _ _ _)
   | (with_reducible exact ih1 _ _ _ _ _ _ _)
   | (with_reducible exact order_Get.mono _ _ _)
   | (with_reducible exact order_Put.mono _ _ _ _ _ _ _ _ _)
   | (with_reducible exact paybooklaw10_awake.mono _)
   | (with_reducible exact LeO.refl _)
   | (with_reducible exact LeO.none _)
   | (with_reducible refine LeO.ite ?_ ?_)
   | (with_reducible refine LeO.bind ?_ (fun _ => ?_))
   | exact ih0 _ _ _ _ _ _ _ _ _
   | exact ih1 _ _ _ _ _ _ _
   | exact order_Get.mono _ _ _
   | exact order_Put.mono _ _ _ _ _ _ _ _ _
   | exact paybooklaw10_awake.mono _
   | exact LeO.none _
   | refine LeO.ite ?_ ?_
   | refine LeO.bind ?_ (fun _ => ?_)
theorem paybooklaw10_OrderNotices.mono : ∀ a0 a1 a2 a3 a4 a5 a6 a7 k, LeO (paybooklaw10_OrderNotices.f k a0 a1 a2 a3 a4 a5 a6 a7) (paybooklaw10_OrderNotices.f (k + 1) a0 a1 a2 a3 a4 a5 a6 a7) := by
 intro a0 a1 a2 a3 a4 a5 a6 a7 k
 obtain ⟨ih0, ih1⟩ := paybooklaw10_OrderNotices.mono_l k
 unfold paybooklaw10_OrderNotices.f
 repeat' first
   | (with_reducible exact ih0 _ _ _ _ _ _ _ _ _)
   | (with_reducible exact ih1 _ _ _ _ _ _ _)
   | (with_reducible exact order_Get.mono _ _ _)
   | (with_reducible exact order_Put.mono _ _ _ _ _ _ _ _ _)
   | (with_reducible exact paybooklaw10_awake.mono _)
   | (with_reducible exact LeO.refl _)
   | (with_reducible exact LeO.none _)
   | (with_reducible refine LeO.ite ?_ ?_)
   | (with_reducible refine LeO.bind ?_ (fun _ => ?_))
   | exact ih0 _ _ _ _ _ _ _ _ _
   | exact ih1 _ _ _ _ _ _ _
   | exact order_Get.mono _ _ _
   | exact order_Put.mono _ _ _ _ _ _ _ _ _
   | exact paybooklaw10_awake.mono _
   | exact LeO.none _
   | refine LeO.ite ?_ ?_
   | refine LeO.bind ?_ (fun _ => ?_)
def paybooklaw10_OrderNotices.T12 : Bool × List (List Nat × List Nat) := (true, [([], []), ([0], [0]), ([], []), ([1, 2], [1, 2]), ([3, 1], [3]), ([4], [4]), ([5, 4, 4], [4, 5]), ([6, 4], [4, 6]), ([4, 7], [4, 7]), ([8, 6], [8]), ([9], [9]), ([10, 9, 9], [9, 10]), ([11], [11]), ([12, 11, 11], [11, 12]), ([13, 13, 11], [11, 13]), ([14], [14]), ([15, 14], [14, 15]), ([16, 14], [14, 16]), ([14, 17, 11], [11, 14, 17]), ([18, 14, 11], [11, 18]), ([19], [19]), ([20, 19], [19, 20]), ([21, 19], [19, 21]), ([19, 22, 11], [11, 19, 22]), ([23, 19, 11], [11, 23]), ([24], [24]), ([25, 24], [24, 25]), ([26, 24], [24, 26]), ([24, 27, 11], [11, 24, 27]), ([11, 28, 9], [9, 11, 28]), ([9, 29], [9, 29]), ([30, 24, 0, 1, 2, 3, 4, 5, 6, 7, 8, 9, 10, 11, 12, 13, 14, 15, 16, 17, 18, 19, 20, 21, 22, 23, 24, 25, 26, 27, 28, 29, 30], [30])])
def paybooklaw10_OrderNotices.B12 : List Nat := [0, 1, 0, 7, 15, 31, 63, 127, 255, 511, 1023, 2047, 4095, 8191, 16383, 32767, 65535, 131071, 262143, 524287, 1048575, 2097151, 4194303, 8388607, 16777215, 33554431, 67108863, 134217727, 268435455, 536870911, 1073741823, 2147483647]
theorem paybooklaw10_OrderNotices.tab12 : rtab .any (opsOf Try.f6 12) = paybooklaw10_OrderNotices.T12 := by kernel_rfl
theorem paybooklaw10_OrderNotices.bits12 : waitsOk paybooklaw10_OrderNotices.T12.2 paybooklaw10_OrderNotices.B12 = true := by kernel_rfl
set_option maxHeartbeats 40000000 in
set_option maxRecDepth 100000 in
theorem paybooklaw10_OrderNotices.calls (k : Nat) (a0_0 : Int) (a0_1 : Int) (a0_2 : Int) (a0_3 : Int) (a0_4 : Int) (a0_5 : Int) (a1 : Bool) (A2 : Option Addr) (c2 : Nat) (l2 : List Int) (w : World) (hr2 : Kd.C (Kd.int .u8) w A2 l2.length l2) (hc2 : l2.length ≤ c2) (h : paybooklaw10_OrderNotices.f k a0_0 a0_1 a0_2 a0_3 a0_4 a0_5 a1 l2 = some true) :
  Calls Try.prog 6 #[.agg #[.int .u8 a0_0, .int .i64 a0_1, .int .i64 a0_2, .int .i64 a0_3, .int .i64 a0_4, .int .u8 a0_5], .bool a1, .slice A2 l2.length c2] w fun e w' => e = .returned (.bool true) ∧ Below w.heap.size w w' := by
 have hu25 := Try.underlying25
 have HR2 := Aside0.mk hr2
 have HC2 := Aside0.mk hc2
 clear hr2 hc2
 have HB := Aside0.mk (Below.refl w.heap.size w)
 have H : ((paybooklaw10_awake.f k).bind fun t429 => (if t429 = true then (paybooklaw10_OrderNotices.j0 k a1 l2 (decide ((l2.length : Int) > 50)) a0_0 a0_1 a0_2 a0_3 a0_4 a0_5) else (paybooklaw10_OrderNotices.j0 k a1 l2 true a0_0 a0_1 a0_2 a0_3 a0_4 a0_5))) = some true := h
 clear h
 have HC4 := Aside0.mk H
 clear H
 go_enter Try.func6, Try.ntmps6
 go_upto_region 1 with (first | ((with_reducible refine gate_dst (N := 3) rfl ?_); (try (refine gate_guard (by rfl) ?_; dsimp only)); refine box_event ?hg (N := 3) ?hd (cs := #[.int .u8 a0_0, .int .i64 a0_1, .int .i64 a0_2, .int .i64 a0_3, .int .i64 a0_4, .int .u8 a0_5]) (t := 25) ?hr ?_; (case hd => rfl); (case hg => rfl); (case hr => first | (go_simp; done) | (go_simp; rfl)); intro gb428 hg w5 hbox hb; have n0_ := Aside0.mk (below_step (by repeat (first | (with_reducible first | exact HB.out | apply kL | apply kM | apply kE) | exact HB.out)) hb); have n1_ := Aside0.mk (hbox); have n2_ := Aside0.mk ((by rw [hg]; exact (below_size (by repeat (first | (with_reducible first | exact HB.out | apply kL | apply kM | apply kE) | exact HB.out))) : w.heap.size ≤ gb428)); have n3_ := Aside0.mk ((by rw [hg]; exact (below_size (by repeat (first | (with_reducible first | exact HB.out | apply kL | apply kM | apply kE) | exact HB.out))) : w.heap.size ≤ gb428)); clear HB; have HB := n0_; have BK428 := n1_; have GW428 := n2_; have GE428 := n3_; clear n0_ n1_ n2_ n3_; clear hb hbox hg))
 (try simp only [Act.put, List.setIfInBounds_toArray, List.set_cons_zero, List.set_cons_succ])
 go_cut [18] (fun v18 wc => ∃ (kq : Nat) (x18_3 : Bool), v18 = .bool x18_3 ∧ Aside0 (paybooklaw10_OrderNotices.j0 kq a1 l2 x18_3 a0_0 a0_1 a0_2 a0_3 a0_4 a0_5 = some true) ∧ Aside0 (kq ≤ k) ∧ Aside0 (wc.heap[gb428]? = some (.cells #[.int .u8 a0_0, .int .i64 a0_1, .int .i64 a0_2, .int .i64 a0_3, .int .i64 a0_4, .int .u8 a0_5] 25 (0, 0))) ∧ Aside0 (Below w.heap.size w wc))
 case first =>
  have H := HC4.out
  clear HC4
  replace H := Option.bind_eq_some_iff.mp H
  obtain ⟨t429, A60, H⟩ := H
  replace H : (if t429 = true then (paybooklaw10_OrderNotices.j0 k a1 l2 (decide ((l2.length : Int) > 50)) a0_0 a0_1 a0_2 a0_3 a0_4 a0_5) else (paybooklaw10_OrderNotices.j0 k a1 l2 true a0_0 a0_1 a0_2 a0_3 a0_4 a0_5)) = some true := H
  have A6 := Aside0.mk A60
  clear A60
  by_cases c7 : t429 = true
  ·subst c7
   have H1 : (paybooklaw10_OrderNotices.j0 k a1 l2 (decide ((l2.length : Int) > 50)) a0_0 a0_1 a0_2 a0_3 a0_4 a0_5) = some true := by rw [if_pos rfl] at H; try exact H
   clear H
   have H := H1
   clear H1
   have H' := Aside0.mk H
   clear H
   go_wp2_with (first | (go_at_call 10; (with_reducible refine (paybooklaw10_awake.calls k  true _ A6.out).mono ?_); rintro e w8 ⟨rfl, hb⟩; have n0_ := Aside0.mk (blk_below (g := gb428) (o := .cells #[.int .u8 a0_0, .int .i64 a0_1, .int .i64 a0_2, .int .i64 a0_3, .int .i64 a0_4, .int .u8 a0_5] 25 (0, 0)) (by (with_reducible repeat (first | refine kN ?_ _ | refine kD ?_ | refine kA ?_ _)); exact BK428.out) hb); have n1_ := Aside0.mk (below_step (by repeat (first | (with_reducible first | exact HB.out | apply kL | apply kM | apply kE | refine kS ?_ GE428.out) | exact HB.out)) hb); clear BK428; clear HB; have BK428 := n0_; have HB := n1_; clear n0_ n1_; (try clear hb); (try clear hb2); (try clear hk); (try clear hi)) | ((with_reducible refine gate_callee (f := 10) rfl ?_); refine goesL_ (some 12) rfl rfl Try.func10 (by kernel_rfl) rfl #[] rfl (by (try simp only [List.map_toArray, List.map_cons, List.map_nil]); first | done | rfl | (simp only [List.length_drop, List.length_take]; rfl)) ?_; (with_reducible refine (paybooklaw10_awake.calls k  true _ A6.out).mono ?_); rintro e w8 ⟨rfl, hb⟩; refine ⟨_, rfl, ?_⟩; have n0_ := Aside0.mk (blk_below (g := gb428) (o := .cells #[.int .u8 a0_0, .int .i64 a0_1, .int .i64 a0_2, .int .i64 a0_3, .int .i64 a0_4, .int .u8 a0_5] 25 (0, 0)) (by (with_reducible repeat (first | refine kN ?_ _ | refine kD ?_ | refine kA ?_ _)); exact BK428.out) hb); have n1_ := Aside0.mk (below_step (by repeat (first | (with_reducible first | exact HB.out | apply kL | apply kM | apply kE | refine kS ?_ GE428.out) | exact HB.out)) hb); clear BK428; clear HB; have BK428 := n0_; have HB := n1_; clear n0_ n1_; (try clear hb); (try clear hb2); (try clear hk); (try clear hi)))
   go_meet
   case rel => exact ⟨_, (decide ((l2.length : Int) > 50)), (by first | rfl | (simp; done) | (simp [*]; done)), (by first | (with_reducible exact H') | (simp only [*]; with_reducible exact H') | exact H'), ⟨by first | omega | exact Nat.le_refl _⟩, ⟨by (with_reducible repeat (first | refine kN ?_ _ | refine kD ?_ | refine kA ?_ _)); exact BK428.out⟩, ⟨by repeat (first | (with_reducible first | exact HB.out | apply kL | apply kM | apply kE | refine kS ?_ GE428.out) | exact HB.out)⟩⟩
  ·replace c7 := Bool.eq_false_iff.mpr c7
   subst c7
   have H1 : (paybooklaw10_OrderNotices.j0 k a1 l2 true a0_0 a0_1 a0_2 a0_3 a0_4 a0_5) = some true := by rw [if_neg (show ¬ (false = true) by decide)] at H; try exact H
   clear H
   have H := H1
   clear H1
   have H' := Aside0.mk H
   clear H
   go_wp2_with (first | (go_at_call 10; (with_reducible refine (paybooklaw10_awake.calls k  false _ A6.out).mono ?_); rintro e w9 ⟨rfl, hb⟩; have n0_ := Aside0.mk (blk_below (g := gb428) (o := .cells #[.int .u8 a0_0, .int .i64 a0_1, .int .i64 a0_2, .int .i64 a0_3, .int .i64 a0_4, .int .u8 a0_5] 25 (0, 0)) (by (with_reducible repeat (first | refine kN ?_ _ | refine kD ?_ | refine kA ?_ _)); exact BK428.out) hb); have n1_ := Aside0.mk (below_step (by repeat (first | (with_reducible first | exact HB.out | apply kL | apply kM | apply kE | refine kS ?_ GE428.out) | exact HB.out)) hb); clear BK428; clear HB; have BK428 := n0_; have HB := n1_; clear n0_ n1_; (try clear hb); (try clear hb2); (try clear hk); (try clear hi)) | ((with_reducible refine gate_callee (f := 10) rfl ?_); refine goesL_ (some 12) rfl rfl Try.func10 (by kernel_rfl) rfl #[] rfl (by (try simp only [List.map_toArray, List.map_cons, List.map_nil]); first | done | rfl | (simp only [List.length_drop, List.length_take]; rfl)) ?_; (with_reducible refine (paybooklaw10_awake.calls k  false _ A6.out).mono ?_); rintro e w9 ⟨rfl, hb⟩; refine ⟨_, rfl, ?_⟩; have n0_ := Aside0.mk (blk_below (g := gb428) (o := .cells #[.int .u8 a0_0, .int .i64 a0_1, .int .i64 a0_2, .int .i64 a0_3, .int .i64 a0_4, .int .u8 a0_5] 25 (0, 0)) (by (with_reducible repeat (first | refine kN ?_ _ | refine kD ?_ | refine kA ?_ _)); exact BK428.out) hb); have n1_ := Aside0.mk (below_step (by repeat (first | (with_reducible first | exact HB.out | apply kL | apply kM | apply kE | refine kS ?_ GE428.out) | exact HB.out)) hb); clear BK428; clear HB; have BK428 := n0_; have HB := n1_; clear n0_ n1_; (try clear hb); (try clear hb2); (try clear hk); (try clear hi)))
   go_meet
   case rel => exact ⟨_, (true), (by first | rfl | (simp; done) | (simp [*]; done)), (by first | (with_reducible exact H') | (simp only [*]; with_reducible exact H') | exact H'), ⟨by first | omega | exact Nat.le_refl _⟩, ⟨by (with_reducible repeat (first | refine kN ?_ _ | refine kD ?_ | refine kA ?_ _)); exact BK428.out⟩, ⟨by repeat (first | (with_reducible first | exact HB.out | apply kL | apply kM | apply kE | refine kS ?_ GE428.out) | exact HB.out)⟩⟩
 case rest =>
  clear HC4
  try clear c1
  try clear c2
  try clear p2
  try clear c6
  try clear c7
  obtain ⟨kq, x18_3, rfl, HA, HJ3, BK428, HB⟩ := hcut
  cases kq with
  | zero => exact absurd HA.out (by simp [paybooklaw10_OrderNotices.j0])
  | succ kj3 =>
   have H := HA.out
   clear HA
   simp only [paybooklaw10_OrderNotices.j0] at H
   by_cases c10 : x18_3 = true
   ·subst c10
    have H1 : ((paybooklaw10_awake.f kj3).bind fun t430 => (some t430)) = some true := by rw [if_pos rfl] at H; try exact H
    clear H
    have H := H1
    clear H1
    replace H := Option.bind_eq_some_iff.mp H
    obtain ⟨t430, A110, H⟩ := H
    replace H : (some t430) = some true := H
    have A11 := Aside0.mk A110
    clear A110
    have HT_ := Option.some.inj H
    clear H
    (try (have HT_z_ := HT_; simp only [beq_true, beq_false, true_beq, false_beq, Bool.not_eq_true', Bool.not_eq_false', Bool.not_true, Bool.not_false] at HT_z_))
    go_wp2_with (first | (go_at_call 10; (with_reducible refine (paybooklaw10_awake.calls kj3  t430 _ A11.out).mono ?_); rintro e w12 ⟨rfl, hb⟩; have n0_ := Aside0.mk (blk_below (g := gb428) (o := .cells #[.int .u8 a0_0, .int .i64 a0_1, .int .i64 a0_2, .int .i64 a0_3, .int .i64 a0_4, .int .u8 a0_5] 25 (0, 0)) (by (with_reducible repeat (first | refine kN ?_ _ | refine kD ?_ | refine kA ?_ _)); exact BK428.out) hb); have n1_ := Aside0.mk (below_step (by repeat (first | (with_reducible first | exact HB.out | apply kL | apply kM | apply kE | refine kS ?_ GE428.out) | exact HB.out)) hb); clear BK428; clear HB; have BK428 := n0_; have HB := n1_; clear n0_ n1_; (try clear hb); (try clear hb2); (try clear hk); (try clear hi)) | ((with_reducible refine gate_callee (f := 10) rfl ?_); refine goesL_ (some 19) rfl rfl Try.func10 (by kernel_rfl) rfl #[] rfl (by (try simp only [List.map_toArray, List.map_cons, List.map_nil]); first | done | rfl | (simp only [List.length_drop, List.length_take]; rfl)) ?_; (with_reducible refine (paybooklaw10_awake.calls kj3  t430 _ A11.out).mono ?_); rintro e w12 ⟨rfl, hb⟩; refine ⟨_, rfl, ?_⟩; have n0_ := Aside0.mk (blk_below (g := gb428) (o := .cells #[.int .u8 a0_0, .int .i64 a0_1, .int .i64 a0_2, .int .i64 a0_3, .int .i64 a0_4, .int .u8 a0_5] 25 (0, 0)) (by (with_reducible repeat (first | refine kN ?_ _ | refine kD ?_ | refine kA ?_ _)); exact BK428.out) hb); have n1_ := Aside0.mk (below_step (by repeat (first | (with_reducible first | exact HB.out | apply kL | apply kM | apply kE | refine kS ?_ GE428.out) | exact HB.out)) hb); clear BK428; clear HB; have BK428 := n0_; have HB := n1_; clear n0_ n1_; (try clear hb); (try clear hb2); (try clear hk); (try clear hi)))
    go_ret
    exact ⟨by first | rfl | (simp [errW_none, errW_some] <;> rfl) | (simp [*, errW_none, errW_some] <;> rfl), by repeat (first | (with_reducible first | exact HB.out | apply kL | apply kM | apply kE | refine kS ?_ GE428.out) | exact HB.out)⟩
   ·replace c10 := Bool.eq_false_iff.mpr c10
    subst c10
    have H1 : ((paybooklaw10_notice.f a0_0 a0_1 a0_2 a0_3 a0_4 a0_5).bind fun bt431 => (if a1 = true then (paybooklaw10_OrderNotices.j1 kj3 l2 bt431.1 bt431.2.1 bt431.2.2.1 bt431.2.2.2.1 bt431.2.2.2.2.1 0) else (paybooklaw10_OrderNotices.j1 kj3 l2 bt431.1 bt431.2.1 bt431.2.2.1 bt431.2.2.2.1 bt431.2.2.2.2.1 bt431.2.2.2.2.2))) = some true := by rw [if_neg (show ¬ (false = true) by decide)] at H; try exact H
    clear H
    have H := H1
    clear H1
    replace H := Option.bind_eq_some_iff.mp H
    obtain ⟨⟨t431, t432, t433, t434, t435, t436⟩, A130, H⟩ := H
    replace H : (if a1 = true then (paybooklaw10_OrderNotices.j1 kj3 l2 t431 t432 t433 t434 t435 0) else (paybooklaw10_OrderNotices.j1 kj3 l2 t431 t432 t433 t434 t435 t436)) = some true := H
    have A13 := Aside0.mk A130
    clear A130
    have HC14 := Aside0.mk H
    clear H
    obtain ⟨hcz15_0, hcz15_1, hcz15_2, hcz15_3, hcz15_4, hcz15_5, hfz15_0, hfz15_1, hfz15_2, hfz15_3, hfz15_4, hfz15_5⟩ := bxc6 BK428.out
    go_upto_if 22 with (first | ((with_reducible refine gate_callee (f := 16) rfl ?_); refine goesL_ (some 21) rfl rfl Try.func16 (by kernel_rfl) rfl #[.agg #[.int .u8 a0_0, .int .i64 a0_1, .int .i64 a0_2, .int .i64 a0_3, .int .i64 a0_4, .int .u8 a0_5]] rfl (by (try simp only [List.map_toArray, List.map_cons, List.map_nil]); first | done | rfl | (simp only [List.length_drop, List.length_take]; rfl)) ?_; (with_reducible refine (paybooklaw10_notice.calls a0_0 a0_1 a0_2 a0_3 a0_4 a0_5 t431 t432 t433 t434 t435 t436 _ A13.out).mono ?_); rintro e w16 ⟨rfl, hb⟩; refine ⟨_, rfl, ?_⟩; have n0_ := Aside0.mk (blk_below (g := gb428) (o := .cells #[.int .u8 a0_0, .int .i64 a0_1, .int .i64 a0_2, .int .i64 a0_3, .int .i64 a0_4, .int .u8 a0_5] 25 (0, 0)) (by (with_reducible repeat (first | refine kN ?_ _ | refine kD ?_ | refine kA ?_ _)); exact BK428.out) hb); have n1_ := Aside0.mk (below_step (by repeat (first | (with_reducible first | exact HB.out | apply kL | apply kM | apply kE | refine kS ?_ GE428.out) | exact HB.out)) hb); clear BK428; clear HB; have BK428 := n0_; have HB := n1_; clear n0_ n1_; (try clear hb); (try clear hb2); (try clear hk); (try clear hi); obtain ⟨hcz17_0, hcz17_1, hcz17_2, hcz17_3, hcz17_4, hcz17_5, hfz17_0, hfz17_1, hfz17_2, hfz17_3, hfz17_4, hfz17_5⟩ := bxc6 BK428.out))
    (try simp only [Act.put, List.setIfInBounds_toArray, List.set_cons_zero, List.set_cons_succ])
    go_cut [] (fun wc => ∃ (kq : Nat) (x429005_13 : Int), Aside0 (paybooklaw10_OrderNotices.j1 kq l2 t431 t432 t433 t434 t435 x429005_13 = some true) ∧ Aside0 (kq ≤ kj3) ∧ Aside0 (wc.heap[gb428]? = some (.cells #[.int .u8 t431, .int .i64 t432, .int .i64 t433, .int .i64 t434, .int .i64 t435, .int .u8 x429005_13] 25 (0, 0))) ∧ Aside0 (Below w.heap.size w wc))
    case first =>
     have H := HC14.out
     clear HC14
     by_cases c18 : a1 = true
     ·subst c18
      have H1 : (paybooklaw10_OrderNotices.j1 kj3 l2 t431 t432 t433 t434 t435 0) = some true := by rw [if_pos rfl] at H; try exact H
      clear H
      have H := H1
      clear H1
      have H' := Aside0.mk H
      clear H
      obtain ⟨hcz19_0, hcz19_1, hcz19_2, hcz19_3, hcz19_4, hcz19_5, hfz19_0, hfz19_1, hfz19_2, hfz19_3, hfz19_4, hfz19_5⟩ := bxc6 BK428.out
      go_wp2
      go_meet
      case rel => exact ⟨_, (0), (by first | (with_reducible exact H') | (simp only [*]; with_reducible exact H') | exact H'), ⟨by have := HJ3.out; first | omega | exact Nat.le_refl _⟩, ⟨by (with_reducible repeat (first | refine kN ?_ _ | refine kD ?_ | refine kA ?_ _)); refine bxp6_5 (o := .int .u8 t436) ?_; (with_reducible repeat (first | refine kN ?_ _ | refine kD ?_ | refine kA ?_ _)); refine bxw6 (.int .u8 a0_0) (.int .i64 a0_1) (.int .i64 a0_2) (.int .i64 a0_3) (.int .i64 a0_4) (.int .u8 a0_5) ?_; (with_reducible repeat (first | refine kN ?_ _ | refine kD ?_ | refine kA ?_ _)); exact BK428.out⟩, ⟨by repeat (first | (with_reducible first | exact HB.out | apply kL | apply kM | apply kE | refine kS ?_ GE428.out) | exact HB.out)⟩⟩
     ·replace c18 := Bool.eq_false_iff.mpr c18
      subst c18
      have H1 : (paybooklaw10_OrderNotices.j1 kj3 l2 t431 t432 t433 t434 t435 t436) = some true := by rw [if_neg (show ¬ (false = true) by decide)] at H; try exact H
      clear H
      have H := H1
      clear H1
      have H' := Aside0.mk H
      clear H
      go_wp2
      go_meet
      case rel => exact ⟨_, (t436), (by first | (with_reducible exact H') | (simp only [*]; with_reducible exact H') | exact H'), ⟨by have := HJ3.out; first | omega | exact Nat.le_refl _⟩, ⟨by (with_reducible repeat (first | refine kN ?_ _ | refine kD ?_ | refine kA ?_ _)); refine bxw6 (.int .u8 a0_0) (.int .i64 a0_1) (.int .i64 a0_2) (.int .i64 a0_3) (.int .i64 a0_4) (.int .u8 a0_5) ?_; (with_reducible repeat (first | refine kN ?_ _ | refine kD ?_ | refine kA ?_ _)); exact BK428.out⟩, ⟨by repeat (first | (with_reducible first | exact HB.out | apply kL | apply kM | apply kE | refine kS ?_ GE428.out) | exact HB.out)⟩⟩
    case rest =>
     clear HC14
     try clear c1
     try clear c2
     try clear p2
     try clear c6
     try clear p6
     try clear c7
     try clear c10
     try clear c16
     try clear c18
     try clear hcz15_0
     try clear hcz15_1
     try clear hcz15_2
     try clear hcz15_3
     try clear hcz15_4
     try clear hcz15_5
     try clear hcz17_0
     try clear hcz17_1
     try clear hcz17_2
     try clear hcz17_3
     try clear hcz17_4
     try clear hcz17_5
     try clear hcz19_0
     try clear hcz19_1
     try clear hcz19_2
     try clear hcz19_3
     try clear hcz19_4
     try clear hcz19_5
     try clear hfz15_0
     try clear hfz15_1
     try clear hfz15_2
     try clear hfz15_3
     try clear hfz15_4
     try clear hfz15_5
     try clear hfz17_0
     try clear hfz17_1
     try clear hfz17_2
     try clear hfz17_3
     try clear hfz17_4
     try clear hfz17_5
     try clear hfz19_0
     try clear hfz19_1
     try clear hfz19_2
     try clear hfz19_3
     try clear hfz19_4
     try clear hfz19_5
     try clear p2
     obtain ⟨kq, x429005_13, HA, HJ13, BK428, HB⟩ := hcut
     cases kq with
     | zero => exact absurd HA.out (by simp [paybooklaw10_OrderNotices.j1])
     | succ kj13 =>
      have H := HA.out
      clear HA
      simp only [paybooklaw10_OrderNotices.j1] at H
      replace H := Option.bind_eq_some_iff.mp H
      obtain ⟨⟨t437, t440⟩, A200, H⟩ := H
      replace H : ((order_Put.f kj13 t437 t440 t431 t432 t433 t434 t435 x429005_13).bind fun bt442 => ((pack_Box_Done.f bt442.1 bt442.2).bind fun bt446 => ((pack_Of.f bt446.1).bind fun bt453 => ((pack_Of.f l2).bind fun bt458 => ((order_Get.f kj13 bt458.1 bt458.2).bind fun bt463 => ((pack_Box_Fault.f bt463.2.2.2.2.2.2.1 bt463.2.2.2.2.2.2.2).bind fun bt474 => ((order_Get.f kj13 bt453.1 bt453.2).bind fun bt479 => (if (bt479.1 == t431 && (bt479.2.1 == t432 && (bt479.2.2.1 == t433 && (bt479.2.2.2.1 == t434 && (bt479.2.2.2.2.1 == t435 && (bt479.2.2.2.2.2.1 == x429005_13)))))) = true then ((pack_Box_End.f bt479.2.2.2.2.2.2.1 bt479.2.2.2.2.2.2.2).bind fun bt489 => (if bt489.1 = 0 then (if bt474.1 = 0 then ((paybooklaw10_key.f bt463.1 bt463.2.1 bt463.2.2.1 bt463.2.2.2.1 bt463.2.2.2.2.1 bt463.2.2.2.2.2.1).bind fun t494 => (if t494 = true then (if bt463.1 ≥ 1 then (if bt463.1 ≤ 5 then (some (decide (bt463.2.2.2.2.2.1 ≤ 3))) else (some false)) else (some false)) else (some false))) else (some true)) else (some false))) else (some false))))))))) = some true := H
      have A20 := Aside0.mk A200
      clear A200
      replace H := Option.bind_eq_some_iff.mp H
      obtain ⟨⟨t442, t445⟩, A210, H⟩ := H
      replace H : ((pack_Box_Done.f t442 t445).bind fun bt446 => ((pack_Of.f bt446.1).bind fun bt453 => ((pack_Of.f l2).bind fun bt458 => ((order_Get.f kj13 bt458.1 bt458.2).bind fun bt463 => ((pack_Box_Fault.f bt463.2.2.2.2.2.2.1 bt463.2.2.2.2.2.2.2).bind fun bt474 => ((order_Get.f kj13 bt453.1 bt453.2).bind fun bt479 => (if (bt479.1 == t431 && (bt479.2.1 == t432 && (bt479.2.2.1 == t433 && (bt479.2.2.2.1 == t434 && (bt479.2.2.2.2.1 == t435 && (bt479.2.2.2.2.2.1 == x429005_13)))))) = true then ((pack_Box_End.f bt479.2.2.2.2.2.2.1 bt479.2.2.2.2.2.2.2).bind fun bt489 => (if bt489.1 = 0 then (if bt474.1 = 0 then ((paybooklaw10_key.f bt463.1 bt463.2.1 bt463.2.2.1 bt463.2.2.2.1 bt463.2.2.2.2.1 bt463.2.2.2.2.2.1).bind fun t494 => (if t494 = true then (if bt463.1 ≥ 1 then (if bt463.1 ≤ 5 then (some (decide (bt463.2.2.2.2.2.1 ≤ 3))) else (some false)) else (some false)) else (some false))) else (some true)) else (some false))) else (some false)))))))) = some true := H
      have A21 := Aside0.mk A210
      clear A210
      replace H := Option.bind_eq_some_iff.mp H
      obtain ⟨⟨t446, t449, t452⟩, A220, H⟩ := H
      replace H : ((pack_Of.f t446).bind fun bt453 => ((pack_Of.f l2).bind fun bt458 => ((order_Get.f kj13 bt458.1 bt458.2).bind fun bt463 => ((pack_Box_Fault.f bt463.2.2.2.2.2.2.1 bt463.2.2.2.2.2.2.2).bind fun bt474 => ((order_Get.f kj13 bt453.1 bt453.2).bind fun bt479 => (if (bt479.1 == t431 && (bt479.2.1 == t432 && (bt479.2.2.1 == t433 && (bt479.2.2.2.1 == t434 && (bt479.2.2.2.2.1 == t435 && (bt479.2.2.2.2.2.1 == x429005_13)))))) = true then ((pack_Box_End.f bt479.2.2.2.2.2.2.1 bt479.2.2.2.2.2.2.2).bind fun bt489 => (if bt489.1 = 0 then (if bt474.1 = 0 then ((paybooklaw10_key.f bt463.1 bt463.2.1 bt463.2.2.1 bt463.2.2.2.1 bt463.2.2.2.2.1 bt463.2.2.2.2.2.1).bind fun t494 => (if t494 = true then (if bt463.1 ≥ 1 then (if bt463.1 ≤ 5 then (some (decide (bt463.2.2.2.2.2.1 ≤ 3))) else (some false)) else (some false)) else (some false))) else (some true)) else (some false))) else (some false))))))) = some true := H
      have A22 := Aside0.mk A220
      clear A220
      replace H := Option.bind_eq_some_iff.mp H
      obtain ⟨⟨t453, t456⟩, A230, H⟩ := H
      replace H : ((pack_Of.f l2).bind fun bt458 => ((order_Get.f kj13 bt458.1 bt458.2).bind fun bt463 => ((pack_Box_Fault.f bt463.2.2.2.2.2.2.1 bt463.2.2.2.2.2.2.2).bind fun bt474 => ((order_Get.f kj13 t453 t456).bind fun bt479 => (if (bt479.1 == t431 && (bt479.2.1 == t432 && (bt479.2.2.1 == t433 && (bt479.2.2.2.1 == t434 && (bt479.2.2.2.2.1 == t435 && (bt479.2.2.2.2.2.1 == x429005_13)))))) = true then ((pack_Box_End.f bt479.2.2.2.2.2.2.1 bt479.2.2.2.2.2.2.2).bind fun bt489 => (if bt489.1 = 0 then (if bt474.1 = 0 then ((paybooklaw10_key.f bt463.1 bt463.2.1 bt463.2.2.1 bt463.2.2.2.1 bt463.2.2.2.2.1 bt463.2.2.2.2.2.1).bind fun t494 => (if t494 = true then (if bt463.1 ≥ 1 then (if bt463.1 ≤ 5 then (some (decide (bt463.2.2.2.2.2.1 ≤ 3))) else (some false)) else (some false)) else (some false))) else (some true)) else (some false))) else (some false)))))) = some true := H
      have A23 := Aside0.mk A230
      clear A230
      replace H := Option.bind_eq_some_iff.mp H
      obtain ⟨⟨t458, t461⟩, A240, H⟩ := H
      replace H : ((order_Get.f kj13 t458 t461).bind fun bt463 => ((pack_Box_Fault.f bt463.2.2.2.2.2.2.1 bt463.2.2.2.2.2.2.2).bind fun bt474 => ((order_Get.f kj13 t453 t456).bind fun bt479 => (if (bt479.1 == t431 && (bt479.2.1 == t432 && (bt479.2.2.1 == t433 && (bt479.2.2.2.1 == t434 && (bt479.2.2.2.2.1 == t435 && (bt479.2.2.2.2.2.1 == x429005_13)))))) = true then ((pack_Box_End.f bt479.2.2.2.2.2.2.1 bt479.2.2.2.2.2.2.2).bind fun bt489 => (if bt489.1 = 0 then (if bt474.1 = 0 then ((paybooklaw10_key.f bt463.1 bt463.2.1 bt463.2.2.1 bt463.2.2.2.1 bt463.2.2.2.2.1 bt463.2.2.2.2.2.1).bind fun t494 => (if t494 = true then (if bt463.1 ≥ 1 then (if bt463.1 ≤ 5 then (some (decide (bt463.2.2.2.2.2.1 ≤ 3))) else (some false)) else (some false)) else (some false))) else (some true)) else (some false))) else (some false))))) = some true := H
      have A24 := Aside0.mk A240
      clear A240
      replace H := Option.bind_eq_some_iff.mp H
      obtain ⟨⟨t463, t464, t465, t466, t467, t468, t469, t472⟩, A250, H⟩ := H
      replace H : ((pack_Box_Fault.f t469 t472).bind fun bt474 => ((order_Get.f kj13 t453 t456).bind fun bt479 => (if (bt479.1 == t431 && (bt479.2.1 == t432 && (bt479.2.2.1 == t433 && (bt479.2.2.2.1 == t434 && (bt479.2.2.2.2.1 == t435 && (bt479.2.2.2.2.2.1 == x429005_13)))))) = true then ((pack_Box_End.f bt479.2.2.2.2.2.2.1 bt479.2.2.2.2.2.2.2).bind fun bt489 => (if bt489.1 = 0 then (if bt474.1 = 0 then ((paybooklaw10_key.f t463 t464 t465 t466 t467 t468).bind fun t494 => (if t494 = true then (if t463 ≥ 1 then (if t463 ≤ 5 then (some (decide (t468 ≤ 3))) else (some false)) else (some false)) else (some false))) else (some true)) else (some false))) else (some false)))) = some true := H
      have A25 := Aside0.mk A250
      clear A250
      replace H := Option.bind_eq_some_iff.mp H
      obtain ⟨⟨t474, t475, t478⟩, A260, H⟩ := H
      replace H : ((order_Get.f kj13 t453 t456).bind fun bt479 => (if (bt479.1 == t431 && (bt479.2.1 == t432 && (bt479.2.2.1 == t433 && (bt479.2.2.2.1 == t434 && (bt479.2.2.2.2.1 == t435 && (bt479.2.2.2.2.2.1 == x429005_13)))))) = true then ((pack_Box_End.f bt479.2.2.2.2.2.2.1 bt479.2.2.2.2.2.2.2).bind fun bt489 => (if bt489.1 = 0 then (if t474 = 0 then ((paybooklaw10_key.f t463 t464 t465 t466 t467 t468).bind fun t494 => (if t494 = true then (if t463 ≥ 1 then (if t463 ≤ 5 then (some (decide (t468 ≤ 3))) else (some false)) else (some false)) else (some false))) else (some true)) else (some false))) else (some false))) = some true := H
      have A26 := Aside0.mk A260
      clear A260
      replace H := Option.bind_eq_some_iff.mp H
      obtain ⟨⟨t479, t480, t481, t482, t483, t484, t485, t488⟩, A270, H⟩ := H
      replace H : (if (t479 == t431 && (t480 == t432 && (t481 == t433 && (t482 == t434 && (t483 == t435 && (t484 == x429005_13)))))) = true then ((pack_Box_End.f t485 t488).bind fun bt489 => (if bt489.1 = 0 then (if t474 = 0 then ((paybooklaw10_key.f t463 t464 t465 t466 t467 t468).bind fun t494 => (if t494 = true then (if t463 ≥ 1 then (if t463 ≤ 5 then (some (decide (t468 ≤ 3))) else (some false)) else (some false)) else (some false))) else (some true)) else (some false))) else (some false)) = some true := H
      have A27 := Aside0.mk A270
      clear A270
      by_cases c28 : (t479 == t431 && (t480 == t432 && (t481 == t433 && (t482 == t434 && (t483 == t435 && (t484 == x429005_13)))))) = true
      ·rw [if_pos c28] at H
       have c28b0 : (t479 == t431 && (t480 == t432 && (t481 == t433 && (t482 == t434 && (t483 == t435 && (t484 == x429005_13)))))) = true := c28
       (try (have c28b1 : decide (t479 = t431 && (t480 == t432 && (t481 == t433 && (t482 == t434 && (t483 == t435 && (t484 == x429005_13)))))) = true := by simpa using c28))
       (try (have c28b2 : (t479 == t431 && (t480 == t432 && (t481 == t433 && (t482 == t434 && (t483 == t435 && (t484 == x429005_13)))))) = true := by simpa using c28))
       clear c28
       replace H := Option.bind_eq_some_iff.mp H
       obtain ⟨⟨t489, t490, t493⟩, A290, H⟩ := H
       replace H : (if t489 = 0 then (if t474 = 0 then ((paybooklaw10_key.f t463 t464 t465 t466 t467 t468).bind fun t494 => (if t494 = true then (if t463 ≥ 1 then (if t463 ≤ 5 then (some (decide (t468 ≤ 3))) else (some false)) else (some false)) else (some false))) else (some true)) else (some false)) = some true := H
       have A29 := Aside0.mk A290
       clear A290
       by_cases c30 : t489 = 0
       ·rw [if_pos c30] at H
        have c30b0 : (t489 == 0) = true := beq_iff_eq.mpr c30
        have c30b1 : (t489 != 0) = false := bne_eq_false_iff_eq.mpr c30
        clear c30
        by_cases c31 : t474 = 0
        ·rw [if_pos c31] at H
         have c31b0 : (t474 == 0) = true := beq_iff_eq.mpr c31
         have c31b1 : (t474 != 0) = false := bne_eq_false_iff_eq.mpr c31
         clear c31
         replace H := Option.bind_eq_some_iff.mp H
         obtain ⟨t494, A320, H⟩ := H
         replace H : (if t494 = true then (if t463 ≥ 1 then (if t463 ≤ 5 then (some (decide (t468 ≤ 3))) else (some false)) else (some false)) else (some false)) = some true := H
         have A32 := Aside0.mk A320
         clear A320
         by_cases c33 : t494 = true
         ·subst c33
          have H1 : (if t463 ≥ 1 then (if t463 ≤ 5 then (some (decide (t468 ≤ 3))) else (some false)) else (some false)) = some true := by rw [if_pos rfl] at H; try exact H
          clear H
          have H := H1
          clear H1
          by_cases c34 : t463 ≥ 1
          ·rw [if_pos c34] at H
           have c34b0 : decide (1 ≤ t463) = true := decide_eq_true c34
           clear c34
           by_cases c35 : t463 ≤ 5
           ·rw [if_pos c35] at H
            have c35b0 : decide (t463 ≤ 5) = true := decide_eq_true c35
            clear c35
            have HT_ := Option.some.inj H
            clear H
            (try (have HT_z_ := HT_; simp only [beq_true, beq_false, true_beq, false_beq, Bool.not_eq_true', Bool.not_eq_false', Bool.not_true, Bool.not_false] at HT_z_))
            try go_wp2_with (first | (go_at_call 17; (with_reducible refine (pack_New.calls  t437 t440 _ A20.out).mono ?_); rintro e w36 ⟨v438, gb441, rfl, ho0, hnb441, hnl441, hb⟩; have n0_ := Aside0.mk (Kd.R_lower ho0 (below_size (by repeat (first | (with_reducible first | exact HB.out | apply kL | apply kM | apply kE | refine kS ?_ GE428.out) | exact HB.out)))); have n1_ := Aside0.mk (blk_below (g := gb428) (o := .cells #[.int .u8 t431, .int .i64 t432, .int .i64 t433, .int .i64 t434, .int .i64 t435, .int .u8 x429005_13] 25 (0, 0)) (by (with_reducible repeat (first | refine kN ?_ _ | refine kD ?_ | refine kA ?_ _)); exact BK428.out) hb); have n2_ := Aside0.mk (hnb441); have n3_ := Aside0.mk ((Nat.le_trans (below_size (by repeat (first | (with_reducible first | exact HB.out | apply kL | apply kM | apply kE | refine kS ?_ GE428.out) | exact HB.out))) hnl441 : w.heap.size ≤ gb441)); have n4_ := Aside0.mk ((Nat.le_trans (below_size (by repeat (first | (with_reducible first | exact HB.out | apply kL | apply kM | apply kE | refine kS ?_ GE428.out) | exact HB.out))) hnl441 : w.heap.size ≤ gb441)); have n5_ := Aside0.mk ((Nat.ne_of_lt (Nat.lt_of_lt_of_le (blk_lt (g := gb428) (o := .cells #[.int .u8 t431, .int .i64 t432, .int .i64 t433, .int .i64 t434, .int .i64 t435, .int .u8 x429005_13] 25 (0, 0)) (by (with_reducible repeat (first | refine kN ?_ _ | refine kD ?_ | refine kA ?_ _)); exact BK428.out)) hnl441) : gb428 ≠ gb441)); have n6_ := Aside0.mk ((Nat.ne_of_gt (Nat.lt_of_lt_of_le (blk_lt (g := gb428) (o := .cells #[.int .u8 t431, .int .i64 t432, .int .i64 t433, .int .i64 t434, .int .i64 t435, .int .u8 x429005_13] 25 (0, 0)) (by (with_reducible repeat (first | refine kN ?_ _ | refine kD ?_ | refine kA ?_ _)); exact BK428.out)) hnl441) : gb441 ≠ gb428)); have n7_ := Aside0.mk (below_step (by repeat (first | (with_reducible first | exact HB.out | apply kL | apply kM | apply kE | refine kS ?_ GE428.out) | exact HB.out)) hb); clear BK428; clear HB; have HO439 := n0_; have BK428 := n1_; have BK441 := n2_; have GW441 := n3_; have GE441 := n4_; have NB428_441 := n5_; have NB441_428 := n6_; have HB := n7_; clear n0_ n1_ n2_ n3_ n4_ n5_ n6_ n7_; (try clear hb); (try clear hb2); (try clear hk); (try clear hi); (try clear ho0)) | ((with_reducible refine gate_callee (f := 17) rfl ?_); refine goesL_ (some 24) rfl rfl Try.func17 (by kernel_rfl) rfl #[] rfl (by (try simp only [List.map_toArray, List.map_cons, List.map_nil]); first | done | rfl | (simp only [List.length_drop, List.length_take]; rfl)) ?_; (with_reducible refine (pack_New.calls  t437 t440 _ A20.out).mono ?_); rintro e w36 ⟨v438, gb441, rfl, ho0, hnb441, hnl441, hb⟩; refine ⟨_, rfl, ?_⟩; have n0_ := Aside0.mk (Kd.R_lower ho0 (below_size (by repeat (first | (with_reducible first | exact HB.out | apply kL | apply kM | apply kE | refine kS ?_ GE428.out) | exact HB.out)))); have n1_ := Aside0.mk (blk_below (g := gb428) (o := .cells #[.int .u8 t431, .int .i64 t432, .int .i64 t433, .int .i64 t434, .int .i64 t435, .int .u8 x429005_13] 25 (0, 0)) (by (with_reducible repeat (first | refine kN ?_ _ | refine kD ?_ | refine kA ?_ _)); exact BK428.out) hb); have n2_ := Aside0.mk (hnb441); have n3_ := Aside0.mk ((Nat.le_trans (below_size (by repeat (first | (with_reducible first | exact HB.out | apply kL | apply kM | apply kE | refine kS ?_ GE428.out) | exact HB.out))) hnl441 : w.heap.size ≤ gb441)); have n4_ := Aside0.mk ((Nat.le_trans (below_size (by repeat (first | (with_reducible first | exact HB.out | apply kL | apply kM | apply kE | refine kS ?_ GE428.out) | exact HB.out))) hnl441 : w.heap.size ≤ gb441)); have n5_ := Aside0.mk ((Nat.ne_of_lt (Nat.lt_of_lt_of_le (blk_lt (g := gb428) (o := .cells #[.int .u8 t431, .int .i64 t432, .int .i64 t433, .int .i64 t434, .int .i64 t435, .int .u8 x429005_13] 25 (0, 0)) (by (with_reducible repeat (first | refine kN ?_ _ | refine kD ?_ | refine kA ?_ _)); exact BK428.out)) hnl441) : gb428 ≠ gb441)); have n6_ := Aside0.mk ((Nat.ne_of_gt (Nat.lt_of_lt_of_le (blk_lt (g := gb428) (o := .cells #[.int .u8 t431, .int .i64 t432, .int .i64 t433, .int .i64 t434, .int .i64 t435, .int .u8 x429005_13] 25 (0, 0)) (by (with_reducible repeat (first | refine kN ?_ _ | refine kD ?_ | refine kA ?_ _)); exact BK428.out)) hnl441) : gb441 ≠ gb428)); have n7_ := Aside0.mk (below_step (by repeat (first | (with_reducible first | exact HB.out | apply kL | apply kM | apply kE | refine kS ?_ GE428.out) | exact HB.out)) hb); clear BK428; clear HB; have HO439 := n0_; have BK428 := n1_; have BK441 := n2_; have GW441 := n3_; have GE441 := n4_; have NB428_441 := n5_; have NB441_428 := n6_; have HB := n7_; clear n0_ n1_ n2_ n3_ n4_ n5_ n6_ n7_; (try clear hb); (try clear hb2); (try clear hk); (try clear hi); (try clear ho0); have hnb37 := NB428_441.out; have hnc37 := NB441_428.out; obtain ⟨hcz38_0, hcz38_1, hcz38_2, hcz38_3, hcz38_4, hcz38_5, hfz38_0, hfz38_1, hfz38_2, hfz38_3, hfz38_4, hfz38_5⟩ := bxc6 BK428.out) | ((with_reducible refine gate_callee (f := 18) rfl ?_); refine goesL_ (some 27) rfl rfl Try.func18 (by kernel_rfl) rfl #[.pointer (some ⟨gb441, 0, none⟩), .agg #[.int .u8 t431, .int .i64 t432, .int .i64 t433, .int .i64 t434, .int .i64 t435, .int .u8 x429005_13]] rfl (by (try simp only [List.map_toArray, List.map_cons, List.map_nil]); first | done | rfl | (simp only [List.length_drop, List.length_take]; rfl)) ?_; (with_reducible refine (order_Put.calls kj13 gb441 (fun k_ => some k_ = (v438 : Value).ownBlock) v438 t437 t440 t431 t432 t433 t434 t435 x429005_13 t442 t445 w _ ?side1 ?side2 ?side3 ?side4 A21.out).mono ?_); (case side1 => repeat (first | (with_reducible first | exact HB.out | apply kL | apply kM | apply kE | refine kS ?_ GE428.out | refine kS ?_ GE441.out) | exact HB.out)); (case side2 => exact (by (with_reducible repeat (first | refine kN ?_ _ | refine kD ?_ | refine kA ?_ _)); exact BK441.out)); (case side3 => exact GE441.out); (case side4 => exact Kd.R_tight rfl HO439.out); rintro e w39 ⟨v443, rfl, ho0, hi, hb, hkp⟩; refine ⟨_, rfl, ?_⟩; have n0_ := Aside0.mk (blk_kept (by (with_reducible repeat (first | refine kN ?_ _ | refine kD ?_ | refine kA ?_ _)); exact BK428.out) hkp (fun hs_ => Or.elim hs_ (fun hs_ => (fun e_ => (Kd.R_ne HO439.out BK428.out (by decide)) e_) hs_) (fun e_ => NB428_441.out e_))); have n1_ := Aside0.mk (hi); have n2_ := Aside0.mk (Kd.R_mono (ok' := fun k_ => True) ho0 (fun k_ hk_ => trivial)); have n3_ := Aside0.mk (hb); clear BK428; clear BK441; clear HB; clear HO439; have BK428 := n0_; have BK441 := n1_; have HO444 := n2_; have HB := n3_; clear n0_ n1_ n2_ n3_; (try clear hb); (try clear hkp); (try clear hi); (try clear ho0)) | ((with_reducible refine gate_callee (f := 20) rfl ?_); refine goesL_ (some 29) rfl rfl Try.func20 (by kernel_rfl) rfl #[.pointer (some ⟨gb441, 0, none⟩)] rfl (by (try simp only [List.map_toArray, List.map_cons, List.map_nil]); first | done | rfl | (simp only [List.length_drop, List.length_take]; rfl)) ?_; (with_reducible refine (pack_Box_Done.calls gb441 (fun k_ => some k_ = (v443 : Value).ownBlock) v443 t442 t445 t446 t449 t452 w _ ?side1 ?side2 ?side3 ?side4 A22.out).mono ?_); (case side1 => repeat (first | (with_reducible first | exact HB.out | apply kL | apply kM | apply kE | refine kS ?_ GE428.out | refine kS ?_ GE441.out) | exact HB.out)); (case side2 => exact (by (with_reducible repeat (first | refine kN ?_ _ | refine kD ?_ | refine kA ?_ _)); exact BK441.out)); (case side3 => exact GE441.out); (case side4 => exact Kd.R_tight rfl HO444.out); rintro e w40 ⟨v447, v450, rfl, ho0, ho1, hi, hb, hkp⟩; refine ⟨_, rfl, ?_⟩; have n0_ := Aside0.mk (blk_kept (by (with_reducible repeat (first | refine kN ?_ _ | refine kD ?_ | refine kA ?_ _)); exact BK428.out) hkp (fun hs_ => Or.elim hs_ (fun hs_ => (fun e_ => (Kd.R_ne HO444.out BK428.out (by decide)) e_) hs_) (fun e_ => NB428_441.out e_))); have n1_ := Aside0.mk (hi); have n2_ := Aside0.mk (Kd.R_mono (ok' := fun k_ => some k_ ≠ (v450 : Value).ownBlock) ho0 (fun k_ hk_ => hk_.2)); have n3_ := Aside0.mk (Kd.R_mono (ok' := fun k_ => some k_ ≠ (v447 : Value).ownBlock) ho1 (fun k_ hk_ => hk_.2)); have n4_ := Aside0.mk (hb); clear BK428; clear BK441; clear HB; clear HO444; have BK428 := n0_; have BK441 := n1_; have HO448 := n2_; have HO451 := n3_; have HB := n4_; clear n0_ n1_ n2_ n3_ n4_; (try clear hb); (try clear hkp); (try clear hi); (try clear ho0); (try clear ho1); obtain ⟨Ao41, co41, eo41⟩ := Kd.R_slice HO448.out; subst eo41) | ((with_reducible refine gate_callee (f := 19) rfl ?_); refine goesL_ (some 30) rfl rfl Try.func19 (by kernel_rfl) rfl #[.slice Ao41 t446.length co41] rfl (by (try simp only [List.map_toArray, List.map_cons, List.map_nil]); first | done | rfl | (simp only [List.length_drop, List.length_take]; rfl)) ?_; (with_reducible refine (pack_Of.calls _ _ t446 t453 t456 _ ?side1 ?side2 A23.out).mono ?_); (case side1 => repeat (first | exact (Kd.R_reads' HO448.out).2.2 | (with_reducible refine Kd.C_alloc ?_ _) | (with_reducible refine Kd.C_drewN ?_ _) | (with_reducible refine Kd.C_drew ?_))); (case side2 => exact (Kd.R_reads' HO448.out).2.1); rintro e w42 ⟨v454, gb457, rfl, ho0, hnb457, hnl457, hb⟩; refine ⟨_, rfl, ?_⟩; have n0_ := Aside0.mk (Kd.R_elder' (by (with_reducible repeat (first | apply Kd.R_alloc | apply Kd.R_drewN | apply Kd.R_drew)); exact HO448.out) (Kd.R_base ho0) hb); have n1_ := Aside0.mk (Kd.R_elder' (by (with_reducible repeat (first | apply Kd.R_alloc | apply Kd.R_drewN | apply Kd.R_drew)); exact HO451.out) (Kd.R_base ho0) hb); have n2_ := Aside0.mk (Kd.R_lower (Kd.R_new' (Kd.R_new' ho0 (Kd.R_lt (by (with_reducible repeat (first | apply Kd.R_alloc | apply Kd.R_drewN | apply Kd.R_drew)); exact HO448.out))) (Kd.R_lt (by (with_reducible repeat (first | apply Kd.R_alloc | apply Kd.R_drewN | apply Kd.R_drew)); exact HO451.out))) (below_size (by repeat (first | (with_reducible first | exact HB.out | apply kL | apply kM | apply kE | refine kS ?_ GE428.out | refine kS ?_ GE441.out) | exact HB.out)))); have n3_ := Aside0.mk (blk_below (g := gb428) (o := .cells #[.int .u8 t431, .int .i64 t432, .int .i64 t433, .int .i64 t434, .int .i64 t435, .int .u8 x429005_13] 25 (0, 0)) (by (with_reducible repeat (first | refine kN ?_ _ | refine kD ?_ | refine kA ?_ _)); exact BK428.out) hb); have n4_ := Aside0.mk (blk_below (g := gb441) (o := .cells #[v450, .int .i64 t452] 60 (0, 0)) (by (with_reducible repeat (first | refine kN ?_ _ | refine kD ?_ | refine kA ?_ _)); exact BK441.out) hb); have n5_ := Aside0.mk (hnb457); have n6_ := Aside0.mk ((Nat.le_trans (below_size (by repeat (first | (with_reducible first | exact HB.out | apply kL | apply kM | apply kE | refine kS ?_ GE428.out | refine kS ?_ GE441.out) | exact HB.out))) hnl457 : w.heap.size ≤ gb457)); have n7_ := Aside0.mk ((Nat.le_trans (below_size (by repeat (first | (with_reducible first | exact HB.out | apply kL | apply kM | apply kE | refine kS ?_ GE428.out | refine kS ?_ GE441.out) | exact HB.out))) hnl457 : w.heap.size ≤ gb457)); have n8_ := Aside0.mk ((Nat.ne_of_lt (Nat.lt_of_lt_of_le (blk_lt (g := gb428) (o := .cells #[.int .u8 t431, .int .i64 t432, .int .i64 t433, .int .i64 t434, .int .i64 t435, .int .u8 x429005_13] 25 (0, 0)) (by (with_reducible repeat (first | refine kN ?_ _ | refine kD ?_ | refine kA ?_ _)); exact BK428.out)) hnl457) : gb428 ≠ gb457)); have n9_ := Aside0.mk ((Nat.ne_of_gt (Nat.lt_of_lt_of_le (blk_lt (g := gb428) (o := .cells #[.int .u8 t431, .int .i64 t432, .int .i64 t433, .int .i64 t434, .int .i64 t435, .int .u8 x429005_13] 25 (0, 0)) (by (with_reducible repeat (first | refine kN ?_ _ | refine kD ?_ | refine kA ?_ _)); exact BK428.out)) hnl457) : gb457 ≠ gb428)); have n10_ := Aside0.mk ((Nat.ne_of_lt (Nat.lt_of_lt_of_le (blk_lt (g := gb441) (o := .cells #[v450, .int .i64 t452] 60 (0, 0)) (by (with_reducible repeat (first | refine kN ?_ _ | refine kD ?_ | refine kA ?_ _)); exact BK441.out)) hnl457) : gb441 ≠ gb457)); have n11_ := Aside0.mk ((Nat.ne_of_gt (Nat.lt_of_lt_of_le (blk_lt (g := gb441) (o := .cells #[v450, .int .i64 t452] 60 (0, 0)) (by (with_reducible repeat (first | refine kN ?_ _ | refine kD ?_ | refine kA ?_ _)); exact BK441.out)) hnl457) : gb457 ≠ gb441)); have n12_ := Aside0.mk (below_step (by repeat (first | (with_reducible first | exact HB.out | apply kL | apply kM | apply kE | refine kS ?_ GE428.out | refine kS ?_ GE441.out) | exact HB.out)) hb); clear HO448; clear HO451; clear BK428; clear BK441; clear HB; have HO448 := n0_; have HO451 := n1_; have HO455 := n2_; have BK428 := n3_; have BK441 := n4_; have BK457 := n5_; have GW457 := n6_; have GE457 := n7_; have NB428_457 := n8_; have NB457_428 := n9_; have NB441_457 := n10_; have NB457_441 := n11_; have HB := n12_; clear n0_ n1_ n2_ n3_ n4_ n5_ n6_ n7_ n8_ n9_ n10_ n11_ n12_; (try clear hb); (try clear hb2); (try clear hk); (try clear hi); (try clear ho0)) | ((with_reducible refine gate_callee (f := 19) rfl ?_); refine goesL_ (some 32) rfl rfl Try.func19 (by kernel_rfl) rfl #[.slice A2 l2.length c2] rfl (by (try simp only [List.map_toArray, List.map_cons, List.map_nil]); first | done | rfl | (simp only [List.length_drop, List.length_take]; rfl)) ?_; (with_reducible refine (pack_Of.calls _ _ l2 t458 t461 _ ?side1 ?side2 A24.out).mono ?_); (case side1 => repeat (first | exact (Kd.C_below HR2.out HB.out) | exact HR2.out | (with_reducible refine Kd.C_alloc ?_ _) | (with_reducible refine Kd.C_drewN ?_ _) | (with_reducible refine Kd.C_drew ?_))); (case side2 => exact HC2.out); rintro e w43 ⟨v459, gb462, rfl, ho0, hnb462, hnl462, hb⟩; refine ⟨_, rfl, ?_⟩; have n0_ := Aside0.mk (Kd.R_elder' (by (with_reducible repeat (first | apply Kd.R_alloc | apply Kd.R_drewN | apply Kd.R_drew)); exact HO448.out) (Kd.R_base ho0) hb); have n1_ := Aside0.mk (Kd.R_elder' (by (with_reducible repeat (first | apply Kd.R_alloc | apply Kd.R_drewN | apply Kd.R_drew)); exact HO451.out) (Kd.R_base ho0) hb); have n2_ := Aside0.mk (Kd.R_elder' (by (with_reducible repeat (first | apply Kd.R_alloc | apply Kd.R_drewN | apply Kd.R_drew)); exact HO455.out) (Kd.R_base ho0) hb); have n3_ := Aside0.mk (Kd.R_lower (Kd.R_new' (Kd.R_new' (Kd.R_new' ho0 (Kd.R_lt (by (with_reducible repeat (first | apply Kd.R_alloc | apply Kd.R_drewN | apply Kd.R_drew)); exact HO448.out))) (Kd.R_lt (by (with_reducible repeat (first | apply Kd.R_alloc | apply Kd.R_drewN | apply Kd.R_drew)); exact HO451.out))) (Kd.R_lt (by (with_reducible repeat (first | apply Kd.R_alloc | apply Kd.R_drewN | apply Kd.R_drew)); exact HO455.out))) (below_size (by repeat (first | (with_reducible first | exact HB.out | apply kL | apply kM | apply kE | refine kS ?_ GE428.out | refine kS ?_ GE441.out | refine kS ?_ GE457.out) | exact HB.out)))); have n4_ := Aside0.mk (blk_below (g := gb428) (o := .cells #[.int .u8 t431, .int .i64 t432, .int .i64 t433, .int .i64 t434, .int .i64 t435, .int .u8 x429005_13] 25 (0, 0)) (by (with_reducible repeat (first | refine kN ?_ _ | refine kD ?_ | refine kA ?_ _)); exact BK428.out) hb); have n5_ := Aside0.mk (blk_below (g := gb441) (o := .cells #[v450, .int .i64 t452] 60 (0, 0)) (by (with_reducible repeat (first | refine kN ?_ _ | refine kD ?_ | refine kA ?_ _)); exact BK441.out) hb); have n6_ := Aside0.mk (blk_below (g := gb457) (o := .cells #[v454, .int .i64 t456] 60 (0, 0)) (by (with_reducible repeat (first | refine kN ?_ _ | refine kD ?_ | refine kA ?_ _)); exact BK457.out) hb); have n7_ := Aside0.mk (hnb462); have n8_ := Aside0.mk ((Nat.le_trans (below_size (by repeat (first | (with_reducible first | exact HB.out | apply kL | apply kM | apply kE | refine kS ?_ GE428.out | refine kS ?_ GE441.out | refine kS ?_ GE457.out) | exact HB.out))) hnl462 : w.heap.size ≤ gb462)); have n9_ := Aside0.mk ((Nat.le_trans (below_size (by repeat (first | (with_reducible first | exact HB.out | apply kL | apply kM | apply kE | refine kS ?_ GE428.out | refine kS ?_ GE441.out | refine kS ?_ GE457.out) | exact HB.out))) hnl462 : w.heap.size ≤ gb462)); have n10_ := Aside0.mk ((Nat.ne_of_lt (Nat.lt_of_lt_of_le (blk_lt (g := gb428) (o := .cells #[.int .u8 t431, .int .i64 t432, .int .i64 t433, .int .i64 t434, .int .i64 t435, .int .u8 x429005_13] 25 (0, 0)) (by (with_reducible repeat (first | refine kN ?_ _ | refine kD ?_ | refine kA ?_ _)); exact BK428.out)) hnl462) : gb428 ≠ gb462)); have n11_ := Aside0.mk ((Nat.ne_of_gt (Nat.lt_of_lt_of_le (blk_lt (g := gb428) (o := .cells #[.int .u8 t431, .int .i64 t432, .int .i64 t433, .int .i64 t434, .int .i64 t435, .int .u8 x429005_13] 25 (0, 0)) (by (with_reducible repeat (first | refine kN ?_ _ | refine kD ?_ | refine kA ?_ _)); exact BK428.out)) hnl462) : gb462 ≠ gb428)); have n12_ := Aside0.mk ((Nat.ne_of_lt (Nat.lt_of_lt_of_le (blk_lt (g := gb441) (o := .cells #[v450, .int .i64 t452] 60 (0, 0)) (by (with_reducible repeat (first | refine kN ?_ _ | refine kD ?_ | refine kA ?_ _)); exact BK441.out)) hnl462) : gb441 ≠ gb462)); have n13_ := Aside0.mk ((Nat.ne_of_gt (Nat.lt_of_lt_of_le (blk_lt (g := gb441) (o := .cells #[v450, .int .i64 t452] 60 (0, 0)) (by (with_reducible repeat (first | refine kN ?_ _ | refine kD ?_ | refine kA ?_ _)); exact BK441.out)) hnl462) : gb462 ≠ gb441)); have n14_ := Aside0.mk ((Nat.ne_of_lt (Nat.lt_of_lt_of_le (blk_lt (g := gb457) (o := .cells #[v454, .int .i64 t456] 60 (0, 0)) (by (with_reducible repeat (first | refine kN ?_ _ | refine kD ?_ | refine kA ?_ _)); exact BK457.out)) hnl462) : gb457 ≠ gb462)); have n15_ := Aside0.mk ((Nat.ne_of_gt (Nat.lt_of_lt_of_le (blk_lt (g := gb457) (o := .cells #[v454, .int .i64 t456] 60 (0, 0)) (by (with_reducible repeat (first | refine kN ?_ _ | refine kD ?_ | refine kA ?_ _)); exact BK457.out)) hnl462) : gb462 ≠ gb457)); have n16_ := Aside0.mk (below_step (by repeat (first | (with_reducible first | exact HB.out | apply kL | apply kM | apply kE | refine kS ?_ GE428.out | refine kS ?_ GE441.out | refine kS ?_ GE457.out) | exact HB.out)) hb); clear HO448; clear HO451; clear HO455; clear BK428; clear BK441; clear BK457; clear HB; have HO448 := n0_; have HO451 := n1_; have HO455 := n2_; have HO460 := n3_; have BK428 := n4_; have BK441 := n5_; have BK457 := n6_; have BK462 := n7_; have GW462 := n8_; have GE462 := n9_; have NB428_462 := n10_; have NB462_428 := n11_; have NB441_462 := n12_; have NB462_441 := n13_; have NB457_462 := n14_; have NB462_457 := n15_; have HB := n16_; clear n0_ n1_ n2_ n3_ n4_ n5_ n6_ n7_ n8_ n9_ n10_ n11_ n12_ n13_ n14_ n15_ n16_; (try clear hb); (try clear hb2); (try clear hk); (try clear hi); (try clear ho0)) | ((with_reducible refine gate_callee (f := 21) rfl ?_); refine goesL_ (some 34) rfl rfl Try.func21 (by kernel_rfl) rfl #[.pointer (some ⟨gb462, 0, none⟩)] rfl (by (try simp only [List.map_toArray, List.map_cons, List.map_nil]); first | done | rfl | (simp only [List.length_drop, List.length_take]; rfl)) ?_; (with_reducible refine (order_Get.calls kj13 gb462 (fun k_ => some k_ = (v459 : Value).ownBlock) v459 t458 t461 t463 t464 t465 t466 t467 t468 t469 t472 w _ ?side1 ?side2 ?side3 ?side4 A25.out).mono ?_); (case side1 => repeat (first | (with_reducible first | exact HB.out | apply kL | apply kM | apply kE | refine kS ?_ GE428.out | refine kS ?_ GE441.out | refine kS ?_ GE457.out | refine kS ?_ GE462.out) | exact HB.out)); (case side2 => exact (by (with_reducible repeat (first | refine kN ?_ _ | refine kD ?_ | refine kA ?_ _)); exact BK462.out)); (case side3 => exact GE462.out); (case side4 => exact Kd.Q_tight rfl (Kd.Q_of_R HO460.out)); rintro e w44 ⟨v470, rfl, ho0, hi, hb, hkp⟩; refine ⟨_, rfl, ?_⟩; have n0_ := Aside0.mk (blk_kept (by (with_reducible repeat (first | refine kN ?_ _ | refine kD ?_ | refine kA ?_ _)); exact BK428.out) hkp (fun hs_ => Or.elim hs_ (fun hs_ => (fun e_ => (Kd.R_ne HO460.out BK428.out (by decide)) e_) hs_) (fun e_ => NB428_462.out e_))); have n1_ := Aside0.mk (blk_kept (by (with_reducible repeat (first | refine kN ?_ _ | refine kD ?_ | refine kA ?_ _)); exact BK441.out) hkp (fun hs_ => Or.elim hs_ (fun hs_ => (fun e_ => (Kd.R_ne HO460.out BK441.out (by decide)) e_) hs_) (fun e_ => NB441_462.out e_))); have n2_ := Aside0.mk (Kd.R_mono (ok' := fun k_ => some k_ ≠ (v450 : Value).ownBlock ∧ some k_ ≠ (v454 : Value).ownBlock ∧ some k_ ≠ (v470 : Value).ownBlock) (Kd.R_keptB ((Kd.R_types HO448.out BK462.out (by decide))) hkp (fun k_ hk_ hs_ => Or.elim hs_ (fun hs_ => (hk_.1.2) hs_) (fun e_ => (hk_.2) e_))) (fun k_ hk_ => ⟨hk_.1.1.1.1, hk_.1.1.1.2, fun e_ => Or.elim (ho0.1 k_ e_.symm) (fun hs_ => hk_.2.1 (.inl hs_)) (fun hn_ => Nat.not_le.2 hk_.2.2 hn_)⟩)); have n3_ := Aside0.mk (Kd.R_mono (ok' := fun k_ => some k_ ≠ (.slice Ao41 t446.length co41 : Value).ownBlock ∧ some k_ ≠ (v454 : Value).ownBlock ∧ some k_ ≠ (v470 : Value).ownBlock) (Kd.R_keptB ((Kd.R_types HO451.out BK462.out (by decide))) hkp (fun k_ hk_ hs_ => Or.elim hs_ (fun hs_ => (hk_.1.2) hs_) (fun e_ => (hk_.2) e_))) (fun k_ hk_ => ⟨hk_.1.1.1.1, hk_.1.1.1.2, fun e_ => Or.elim (ho0.1 k_ e_.symm) (fun hs_ => hk_.2.1 (.inl hs_)) (fun hn_ => Nat.not_le.2 hk_.2.2 hn_)⟩)); have n4_ := Aside0.mk (Kd.R_mono (ok' := fun k_ => some k_ ≠ (.slice Ao41 t446.length co41 : Value).ownBlock ∧ some k_ ≠ (v450 : Value).ownBlock ∧ some k_ ≠ (v470 : Value).ownBlock) (Kd.R_keptB ((Kd.R_types HO455.out BK462.out (by decide))) hkp (fun k_ hk_ hs_ => Or.elim hs_ (fun hs_ => (hk_.1.2) hs_) (fun e_ => (hk_.2) e_))) (fun k_ hk_ => ⟨hk_.1.1.1.1.2, hk_.1.1.1.2, fun e_ => Or.elim (ho0.1 k_ e_.symm) (fun hs_ => hk_.2.1 (.inl hs_)) (fun hn_ => Nat.not_le.2 hk_.2.2 hn_)⟩)); have n5_ := Aside0.mk (blk_kept (by (with_reducible repeat (first | refine kN ?_ _ | refine kD ?_ | refine kA ?_ _)); exact BK457.out) hkp (fun hs_ => Or.elim hs_ (fun hs_ => (fun e_ => (Kd.R_ne HO460.out BK457.out (by decide)) e_) hs_) (fun e_ => NB457_462.out e_))); have n6_ := Aside0.mk (hi); have n7_ := Aside0.mk (Kd.Q_mono (ok' := fun k_ => some k_ ≠ (.slice Ao41 t446.length co41 : Value).ownBlock ∧ some k_ ≠ (v450 : Value).ownBlock ∧ some k_ ≠ (v454 : Value).ownBlock) ho0 (fun k_ hk_ => ⟨Or.elim hk_ (fun hs_ => fun e_ => ((((Kd.R_types HO448.out BK462.out (by decide))).1 k_ e_.symm).1.2) hs_) (fun hn_ => (Kd.fresh' (Kd.R_lt (by (with_reducible repeat (first | apply Kd.R_alloc | apply Kd.R_drewN | apply Kd.R_drew)); exact HO448.out)) k_ hn_)), Or.elim hk_ (fun hs_ => fun e_ => ((((Kd.R_types HO451.out BK462.out (by decide))).1 k_ e_.symm).1.2) hs_) (fun hn_ => (Kd.fresh' (Kd.R_lt (by (with_reducible repeat (first | apply Kd.R_alloc | apply Kd.R_drewN | apply Kd.R_drew)); exact HO451.out)) k_ hn_)), Or.elim hk_ (fun hs_ => fun e_ => ((((Kd.R_types HO455.out BK462.out (by decide))).1 k_ e_.symm).1.2) hs_) (fun hn_ => (Kd.fresh' (Kd.R_lt (by (with_reducible repeat (first | apply Kd.R_alloc | apply Kd.R_drewN | apply Kd.R_drew)); exact HO455.out)) k_ hn_))⟩)); have n8_ := Aside0.mk (hb); clear BK428; clear BK441; clear HO448; clear HO451; clear HO455; clear BK457; clear BK462; clear HB; clear HO460; have BK428 := n0_; have BK441 := n1_; have HO448 := n2_; have HO451 := n3_; have HO455 := n4_; have BK457 := n5_; have BK462 := n6_; have HO471 := n7_; have HB := n8_; clear n0_ n1_ n2_ n3_ n4_ n5_ n6_ n7_ n8_; (try clear hb); (try clear hkp); (try clear hi); (try clear ho0)) | ((with_reducible refine gate_dst (N := 10) rfl ?_); (try (refine gate_guard (by rfl) ?_; dsimp only)); refine box_event ?hg (N := 10) ?hd (cs := #[.int .u8 0, .int .i64 0, .int .i64 0, .int .i64 0, .int .i64 0, .int .u8 0]) (t := 25) ?hr ?_; (case hd => rfl); (case hg => rfl); (case hr => first | (go_simp; done) | (go_simp; rfl)); intro gb473 hg w45 hbox hb; have n0_ := Aside0.mk (Kd.R_below (by (with_reducible repeat (first | apply Kd.R_alloc | apply Kd.R_drewN | apply Kd.R_drew)); exact HO448.out) hb); have n1_ := Aside0.mk (Kd.R_below (by (with_reducible repeat (first | apply Kd.R_alloc | apply Kd.R_drewN | apply Kd.R_drew)); exact HO451.out) hb); have n2_ := Aside0.mk (Kd.R_below (by (with_reducible repeat (first | apply Kd.R_alloc | apply Kd.R_drewN | apply Kd.R_drew)); exact HO455.out) hb); have n3_ := Aside0.mk (Kd.Q_below (by (with_reducible repeat (first | apply Kd.Q_alloc | apply Kd.Q_drewN | apply Kd.Q_drew)); exact HO471.out) hb); have n4_ := Aside0.mk (blk_below (g := gb428) (o := .cells #[.int .u8 t431, .int .i64 t432, .int .i64 t433, .int .i64 t434, .int .i64 t435, .int .u8 x429005_13] 25 (0, 0)) (by (with_reducible repeat (first | refine kN ?_ _ | refine kD ?_ | refine kA ?_ _)); exact BK428.out) hb); have n5_ := Aside0.mk (blk_below (g := gb441) (o := .cells #[v450, .int .i64 t452] 60 (0, 0)) (by (with_reducible repeat (first | refine kN ?_ _ | refine kD ?_ | refine kA ?_ _)); exact BK441.out) hb); have n6_ := Aside0.mk (blk_below (g := gb457) (o := .cells #[v454, .int .i64 t456] 60 (0, 0)) (by (with_reducible repeat (first | refine kN ?_ _ | refine kD ?_ | refine kA ?_ _)); exact BK457.out) hb); have n7_ := Aside0.mk (blk_below (g := gb462) (o := .cells #[v470, .int .i64 t472] 60 (0, 0)) (by (with_reducible repeat (first | refine kN ?_ _ | refine kD ?_ | refine kA ?_ _)); exact BK462.out) hb); have n8_ := Aside0.mk (below_step (by repeat (first | (with_reducible first | exact HB.out | apply kL | apply kM | apply kE | refine kS ?_ GE428.out | refine kS ?_ GE441.out | refine kS ?_ GE457.out | refine kS ?_ GE462.out) | exact HB.out)) hb); have n9_ := Aside0.mk (hbox); have n10_ := Aside0.mk ((by rw [hg]; exact (below_size (by repeat (first | (with_reducible first | exact HB.out | apply kL | apply kM | apply kE | refine kS ?_ GE428.out | refine kS ?_ GE441.out | refine kS ?_ GE457.out | refine kS ?_ GE462.out) | exact HB.out))) : w.heap.size ≤ gb473)); have n11_ := Aside0.mk ((by rw [hg]; exact (below_size (by repeat (first | (with_reducible first | exact HB.out | apply kL | apply kM | apply kE | refine kS ?_ GE428.out | refine kS ?_ GE441.out | refine kS ?_ GE457.out | refine kS ?_ GE462.out) | exact HB.out))) : w.heap.size ≤ gb473)); have n12_ := Aside0.mk ((by rw [hg]; exact Nat.ne_of_lt (blk_lt (g := gb428) (o := .cells #[.int .u8 t431, .int .i64 t432, .int .i64 t433, .int .i64 t434, .int .i64 t435, .int .u8 x429005_13] 25 (0, 0)) (by (with_reducible repeat (first | refine kN ?_ _ | refine kD ?_ | refine kA ?_ _)); exact BK428.out)) : gb428 ≠ gb473)); have n13_ := Aside0.mk ((by rw [hg]; exact Nat.ne_of_gt (blk_lt (g := gb428) (o := .cells #[.int .u8 t431, .int .i64 t432, .int .i64 t433, .int .i64 t434, .int .i64 t435, .int .u8 x429005_13] 25 (0, 0)) (by (with_reducible repeat (first | refine kN ?_ _ | refine kD ?_ | refine kA ?_ _)); exact BK428.out)) : gb473 ≠ gb428)); have n14_ := Aside0.mk ((by rw [hg]; exact Nat.ne_of_lt (blk_lt (g := gb441) (o := .cells #[v450, .int .i64 t452] 60 (0, 0)) (by (with_reducible repeat (first | refine kN ?_ _ | refine kD ?_ | refine kA ?_ _)); exact BK441.out)) : gb441 ≠ gb473)); have n15_ := Aside0.mk ((by rw [hg]; exact Nat.ne_of_gt (blk_lt (g := gb441) (o := .cells #[v450, .int .i64 t452] 60 (0, 0)) (by (with_reducible repeat (first | refine kN ?_ _ | refine kD ?_ | refine kA ?_ _)); exact BK441.out)) : gb473 ≠ gb441)); have n16_ := Aside0.mk ((by rw [hg]; exact Nat.ne_of_lt (blk_lt (g := gb457) (o := .cells #[v454, .int .i64 t456] 60 (0, 0)) (by (with_reducible repeat (first | refine kN ?_ _ | refine kD ?_ | refine kA ?_ _)); exact BK457.out)) : gb457 ≠ gb473)); have n17_ := Aside0.mk ((by rw [hg]; exact Nat.ne_of_gt (blk_lt (g := gb457) (o := .cells #[v454, .int .i64 t456] 60 (0, 0)) (by (with_reducible repeat (first | refine kN ?_ _ | refine kD ?_ | refine kA ?_ _)); exact BK457.out)) : gb473 ≠ gb457)); have n18_ := Aside0.mk ((by rw [hg]; exact Nat.ne_of_lt (blk_lt (g := gb462) (o := .cells #[v470, .int .i64 t472] 60 (0, 0)) (by (with_reducible repeat (first | refine kN ?_ _ | refine kD ?_ | refine kA ?_ _)); exact BK462.out)) : gb462 ≠ gb473)); have n19_ := Aside0.mk ((by rw [hg]; exact Nat.ne_of_gt (blk_lt (g := gb462) (o := .cells #[v470, .int .i64 t472] 60 (0, 0)) (by (with_reducible repeat (first | refine kN ?_ _ | refine kD ?_ | refine kA ?_ _)); exact BK462.out)) : gb473 ≠ gb462)); clear HO448; clear HO451; clear HO455; clear HO471; clear BK428; clear BK441; clear BK457; clear BK462; clear HB; have HO448 := n0_; have HO451 := n1_; have HO455 := n2_; have HO471 := n3_; have BK428 := n4_; have BK441 := n5_; have BK457 := n6_; have BK462 := n7_; have HB := n8_; have BK473 := n9_; have GW473 := n10_; have GE473 := n11_; have NB428_473 := n12_; have NB473_428 := n13_; have NB441_473 := n14_; have NB473_441 := n15_; have NB457_473 := n16_; have NB473_457 := n17_; have NB462_473 := n18_; have NB473_462 := n19_; clear n0_ n1_ n2_ n3_ n4_ n5_ n6_ n7_ n8_ n9_ n10_ n11_ n12_ n13_ n14_ n15_ n16_ n17_ n18_ n19_; clear hb hbox hg; have hnb46 := NB473_428.out; have hnc46 := NB428_473.out; have hnb47 := NB473_441.out; have hnc47 := NB441_473.out; have hnb48 := NB473_457.out; have hnc48 := NB457_473.out; have hnb49 := NB473_462.out; have hnc49 := NB462_473.out; obtain ⟨hcz50_0, hcz50_1, hcz50_2, hcz50_3, hcz50_4, hcz50_5, hfz50_0, hfz50_1, hfz50_2, hfz50_3, hfz50_4, hfz50_5⟩ := bxc6 BK473.out) | ((with_reducible refine gate_store (t := 25) (p := 10) rfl ?_); refine store_event (t := 25) (p := 10) (v := ?vo_w51) (w1 := ((((((w45.setCell ⟨gb473, 0, none⟩ (.int .u8 t463)).setCell ⟨gb473, 1, none⟩ (.int .i64 t464)).setCell ⟨gb473, 2, none⟩ (.int .i64 t465)).setCell ⟨gb473, 3, none⟩ (.int .i64 t466)).setCell ⟨gb473, 4, none⟩ (.int .i64 t467)).setCell ⟨gb473, 5, none⟩ (.int .u8 t468))) ?hg ?ho ?hn ?hr ?_; (case ho => rfl); (case hg => rfl); (case hn => rfl); (case hr => first | exact Eq.trans (store_run (cells := #[.int .u8 t463, .int .i64 t464, .int .i64 t465, .int .i64 t466, .int .i64 t467, .int .u8 t468]) #[.int .u8 0, .int .i64 0, .int .i64 0, .int .i64 0, .int .i64 0, .int .u8 0] (by rfl) (by rfl) (by rfl) (BK473.out) (Nat.le_refl 6) (by kernel_rfl) (by kernel_rfl)) (by rfl) | (go_simp; done) | (go_simp; rfl)); intro w51 hw; have n0_ : Aside0 (Kd.R (Kd.int .u8) 5 w51 w.heap.size (fun k_ => some k_ ≠ (v450 : Value).ownBlock ∧ some k_ ≠ (v454 : Value).ownBlock ∧ some k_ ≠ (v470 : Value).ownBlock) (.slice Ao41 t446.length co41) t446) := ⟨(by rw [hw]; exact (by (with_reducible repeat (first | apply Kd.R_alloc | apply Kd.R_drewN | apply Kd.R_drew)); exact Kd.R_mono (Kd.R_far (p := ⟨gb473, 5, none⟩) (Kd.R_far (p := ⟨gb473, 4, none⟩) (Kd.R_far (p := ⟨gb473, 3, none⟩) (Kd.R_far (p := ⟨gb473, 2, none⟩) (Kd.R_far (p := ⟨gb473, 1, none⟩) (Kd.R_far (p := ⟨gb473, 0, none⟩) (Kd.R_types HO448.out BK473.out (by decide)) (fun _ hk => hk.2) (.int .u8 t463)) (fun _ hk => hk.2) (.int .i64 t464)) (fun _ hk => hk.2) (.int .i64 t465)) (fun _ hk => hk.2) (.int .i64 t466)) (fun _ hk => hk.2) (.int .i64 t467)) (fun _ hk => hk.2) (.int .u8 t468)) (fun _ hk => ⟨hk.1.1, ⟨hk.1.2.1, hk.1.2.2⟩⟩)))⟩; have n1_ : Aside0 (Kd.R (Kd.int .u8) 5 w51 w.heap.size (fun k_ => some k_ ≠ (.slice Ao41 t446.length co41 : Value).ownBlock ∧ some k_ ≠ (v454 : Value).ownBlock ∧ some k_ ≠ (v470 : Value).ownBlock) v450 t449) := ⟨(by rw [hw]; exact (by (with_reducible repeat (first | apply Kd.R_alloc | apply Kd.R_drewN | apply Kd.R_drew)); exact Kd.R_mono (Kd.R_far (p := ⟨gb473, 5, none⟩) (Kd.R_far (p := ⟨gb473, 4, none⟩) (Kd.R_far (p := ⟨gb473, 3, none⟩) (Kd.R_far (p := ⟨gb473, 2, none⟩) (Kd.R_far (p := ⟨gb473, 1, none⟩) (Kd.R_far (p := ⟨gb473, 0, none⟩) (Kd.R_types HO451.out BK473.out (by decide)) (fun _ hk => hk.2) (.int .u8 t463)) (fun _ hk => hk.2) (.int .i64 t464)) (fun _ hk => hk.2) (.int .i64 t465)) (fun _ hk => hk.2) (.int .i64 t466)) (fun _ hk => hk.2) (.int .i64 t467)) (fun _ hk => hk.2) (.int .u8 t468)) (fun _ hk => ⟨hk.1.1, ⟨hk.1.2.1, hk.1.2.2⟩⟩)))⟩; have n2_ : Aside0 (Kd.R (Kd.int .u8) 5 w51 w.heap.size (fun k_ => some k_ ≠ (.slice Ao41 t446.length co41 : Value).ownBlock ∧ some k_ ≠ (v450 : Value).ownBlock ∧ some k_ ≠ (v470 : Value).ownBlock) v454 t453) := ⟨(by rw [hw]; exact (by (with_reducible repeat (first | apply Kd.R_alloc | apply Kd.R_drewN | apply Kd.R_drew)); exact Kd.R_mono (Kd.R_far (p := ⟨gb473, 5, none⟩) (Kd.R_far (p := ⟨gb473, 4, none⟩) (Kd.R_far (p := ⟨gb473, 3, none⟩) (Kd.R_far (p := ⟨gb473, 2, none⟩) (Kd.R_far (p := ⟨gb473, 1, none⟩) (Kd.R_far (p := ⟨gb473, 0, none⟩) (Kd.R_types HO455.out BK473.out (by decide)) (fun _ hk => hk.2) (.int .u8 t463)) (fun _ hk => hk.2) (.int .i64 t464)) (fun _ hk => hk.2) (.int .i64 t465)) (fun _ hk => hk.2) (.int .i64 t466)) (fun _ hk => hk.2) (.int .i64 t467)) (fun _ hk => hk.2) (.int .u8 t468)) (fun _ hk => ⟨hk.1.1, ⟨hk.1.2.1, hk.1.2.2⟩⟩)))⟩; have n3_ : Aside0 (Kd.Q (Kd.int .u8) 5 w51 w.heap.size (fun k_ => some k_ ≠ (.slice Ao41 t446.length co41 : Value).ownBlock ∧ some k_ ≠ (v450 : Value).ownBlock ∧ some k_ ≠ (v454 : Value).ownBlock) v470 t469) := ⟨(by rw [hw]; exact (by (with_reducible repeat (first | apply Kd.Q_alloc | apply Kd.Q_drewN | apply Kd.Q_drew)); exact Kd.Q_mono (Kd.Q_far (p := ⟨gb473, 5, none⟩) (Kd.Q_far (p := ⟨gb473, 4, none⟩) (Kd.Q_far (p := ⟨gb473, 3, none⟩) (Kd.Q_far (p := ⟨gb473, 2, none⟩) (Kd.Q_far (p := ⟨gb473, 1, none⟩) (Kd.Q_far (p := ⟨gb473, 0, none⟩) (Kd.Q_types HO471.out BK473.out (by decide)) (fun _ hk => hk.2) (.int .u8 t463)) (fun _ hk => hk.2) (.int .i64 t464)) (fun _ hk => hk.2) (.int .i64 t465)) (fun _ hk => hk.2) (.int .i64 t466)) (fun _ hk => hk.2) (.int .i64 t467)) (fun _ hk => hk.2) (.int .u8 t468)) (fun _ hk => ⟨hk.1.1, ⟨hk.1.2.1, hk.1.2.2⟩⟩)))⟩; have n4_ : Aside0 (w51.heap[gb428]? = some (.cells #[.int .u8 t431, .int .i64 t432, .int .i64 t433, .int .i64 t434, .int .i64 t435, .int .u8 x429005_13] 25 (0, 0))) := ⟨(by rw [hw]; exact (by (with_reducible repeat (first | refine kN ?_ _ | refine kD ?_ | refine kA ?_ _ | refine kR ?_ NB428_473.out _)); (with_reducible repeat (first | refine kN ?_ _ | refine kD ?_ | refine kA ?_ _)); exact BK428.out))⟩; have n5_ : Aside0 (w51.heap[gb441]? = some (.cells #[v450, .int .i64 t452] 60 (0, 0))) := ⟨(by rw [hw]; exact (by (with_reducible repeat (first | refine kN ?_ _ | refine kD ?_ | refine kA ?_ _)); refine kR ?_ NB441_473.out _; (with_reducible repeat (first | refine kN ?_ _ | refine kD ?_ | refine kA ?_ _)); refine kR ?_ NB441_473.out _; (with_reducible repeat (first | refine kN ?_ _ | refine kD ?_ | refine kA ?_ _)); refine kR ?_ NB441_473.out _; (with_reducible repeat (first | refine kN ?_ _ | refine kD ?_ | refine kA ?_ _)); refine kR ?_ NB441_473.out _; (with_reducible repeat (first | refine kN ?_ _ | refine kD ?_ | refine kA ?_ _)); refine kR ?_ NB441_473.out _; (with_reducible repeat (first | refine kN ?_ _ | refine kD ?_ | refine kA ?_ _)); refine kR ?_ NB441_473.out _; (with_reducible repeat (first | refine kN ?_ _ | refine kD ?_ | refine kA ?_ _)); exact BK441.out))⟩; have n6_ : Aside0 (w51.heap[gb457]? = some (.cells #[v454, .int .i64 t456] 60 (0, 0))) := ⟨(by rw [hw]; exact (by (with_reducible repeat (first | refine kN ?_ _ | refine kD ?_ | refine kA ?_ _)); refine kR ?_ NB457_473.out _; (with_reducible repeat (first | refine kN ?_ _ | refine kD ?_ | refine kA ?_ _)); refine kR ?_ NB457_473.out _; (with_reducible repeat (first | refine kN ?_ _ | refine kD ?_ | refine kA ?_ _)); refine kR ?_ NB457_473.out _; (with_reducible repeat (first | refine kN ?_ _ | refine kD ?_ | refine kA ?_ _)); refine kR ?_ NB457_473.out _; (with_reducible repeat (first | refine kN ?_ _ | refine kD ?_ | refine kA ?_ _)); refine kR ?_ NB457_473.out _; (with_reducible repeat (first | refine kN ?_ _ | refine kD ?_ | refine kA ?_ _)); refine kR ?_ NB457_473.out _; (with_reducible repeat (first | refine kN ?_ _ | refine kD ?_ | refine kA ?_ _)); exact BK457.out))⟩; have n7_ : Aside0 (w51.heap[gb462]? = some (.cells #[v470, .int .i64 t472] 60 (0, 0))) := ⟨(by rw [hw]; exact (by (with_reducible repeat (first | refine kN ?_ _ | refine kD ?_ | refine kA ?_ _)); refine kR ?_ NB462_473.out _; (with_reducible repeat (first | refine kN ?_ _ | refine kD ?_ | refine kA ?_ _)); refine kR ?_ NB462_473.out _; (with_reducible repeat (first | refine kN ?_ _ | refine kD ?_ | refine kA ?_ _)); refine kR ?_ NB462_473.out _; (with_reducible repeat (first | refine kN ?_ _ | refine kD ?_ | refine kA ?_ _)); refine kR ?_ NB462_473.out _; (with_reducible repeat (first | refine kN ?_ _ | refine kD ?_ | refine kA ?_ _)); refine kR ?_ NB462_473.out _; (with_reducible repeat (first | refine kN ?_ _ | refine kD ?_ | refine kA ?_ _)); refine kR ?_ NB462_473.out _; (with_reducible repeat (first | refine kN ?_ _ | refine kD ?_ | refine kA ?_ _)); exact BK462.out))⟩; have n8_ : Aside0 (w51.heap[gb473]? = some (.cells #[.int .u8 t463, .int .i64 t464, .int .i64 t465, .int .i64 t466, .int .i64 t467, .int .u8 t468] 25 (0, 0))) := ⟨(by rw [hw]; exact (by (with_reducible repeat (first | refine kN ?_ _ | refine kD ?_ | refine kA ?_ _)); refine bxw6 (.int .u8 0) (.int .i64 0) (.int .i64 0) (.int .i64 0) (.int .i64 0) (.int .u8 0) ?_; (with_reducible repeat (first | refine kN ?_ _ | refine kD ?_ | refine kA ?_ _)); exact BK473.out))⟩; have n9_ : Aside0 (Below w.heap.size w w51) := ⟨(by rw [hw]; exact (by repeat (first | (with_reducible first | exact HB.out | apply kL | apply kM | apply kE | refine kS ?_ GE428.out | refine kS ?_ GE441.out | refine kS ?_ GE457.out | refine kS ?_ GE462.out | refine kS ?_ GE473.out) | exact HB.out)))⟩; clear hw; clear HO448; clear HO451; clear HO455; clear HO471; clear BK428; clear BK441; clear BK457; clear BK462; clear BK473; clear HB; have HO448 := n0_; have HO451 := n1_; have HO455 := n2_; have HO471 := n3_; have BK428 := n4_; have BK441 := n5_; have BK457 := n6_; have BK462 := n7_; have BK473 := n8_; have HB := n9_; clear n0_ n1_ n2_ n3_ n4_ n5_ n6_ n7_ n8_ n9_) | ((with_reducible refine gate_callee (f := 22) rfl ?_); refine goesL_ (some 36) rfl rfl Try.func22 (by kernel_rfl) rfl #[.pointer (some ⟨gb462, 0, none⟩)] rfl (by (try simp only [List.map_toArray, List.map_cons, List.map_nil]); first | done | rfl | (simp only [List.length_drop, List.length_take]; rfl)) ?_; (with_reducible refine (pack_Box_Fault.calls gb462 (fun k_ => some k_ = (v470 : Value).ownBlock) v470 t469 t472 t474 t475 t478 w _ ?side1 ?side2 ?side3 ?side4 A26.out).mono ?_); (case side1 => repeat (first | (with_reducible first | exact HB.out | apply kL | apply kM | apply kE | refine kS ?_ GE428.out | refine kS ?_ GE441.out | refine kS ?_ GE457.out | refine kS ?_ GE462.out | refine kS ?_ GE473.out) | exact HB.out)); (case side2 => exact (by (with_reducible repeat (first | refine kN ?_ _ | refine kD ?_ | refine kA ?_ _)); exact BK462.out)); (case side3 => exact GE462.out); (case side4 => exact Kd.Q_tight rfl HO471.out); rintro e w52 ⟨v476, rfl, ho0, hi, hb, hkp⟩; refine ⟨_, rfl, ?_⟩; have n0_ := Aside0.mk (blk_kept (by (with_reducible repeat (first | refine kN ?_ _ | refine kD ?_ | refine kA ?_ _)); exact BK428.out) hkp (fun hs_ => Or.elim hs_ (fun hs_ => (fun e_ => (Kd.Q_ne HO471.out BK428.out (by decide)) e_) hs_) (fun e_ => NB428_462.out e_))); have n1_ := Aside0.mk (blk_kept (by (with_reducible repeat (first | refine kN ?_ _ | refine kD ?_ | refine kA ?_ _)); exact BK441.out) hkp (fun hs_ => Or.elim hs_ (fun hs_ => (fun e_ => (Kd.Q_ne HO471.out BK441.out (by decide)) e_) hs_) (fun e_ => NB441_462.out e_))); have n2_ := Aside0.mk (Kd.R_mono (ok' := fun k_ => some k_ ≠ (v450 : Value).ownBlock ∧ some k_ ≠ (v454 : Value).ownBlock ∧ some k_ ≠ (v476 : Value).ownBlock) (Kd.R_keptB ((Kd.R_types HO448.out BK462.out (by decide))) hkp (fun k_ hk_ hs_ => Or.elim hs_ (fun hs_ => (hk_.1.2.2) hs_) (fun e_ => (hk_.2) e_))) (fun k_ hk_ => ⟨hk_.1.1.1, hk_.1.1.2.1, fun e_ => Or.elim (ho0.1 k_ e_.symm) (fun hs_ => hk_.2.1 (.inl hs_)) (fun hn_ => Nat.not_le.2 hk_.2.2 hn_)⟩)); have n3_ := Aside0.mk (Kd.R_mono (ok' := fun k_ => some k_ ≠ (.slice Ao41 t446.length co41 : Value).ownBlock ∧ some k_ ≠ (v454 : Value).ownBlock ∧ some k_ ≠ (v476 : Value).ownBlock) (Kd.R_keptB ((Kd.R_types HO451.out BK462.out (by decide))) hkp (fun k_ hk_ hs_ => Or.elim hs_ (fun hs_ => (hk_.1.2.2) hs_) (fun e_ => (hk_.2) e_))) (fun k_ hk_ => ⟨hk_.1.1.1, hk_.1.1.2.1, fun e_ => Or.elim (ho0.1 k_ e_.symm) (fun hs_ => hk_.2.1 (.inl hs_)) (fun hn_ => Nat.not_le.2 hk_.2.2 hn_)⟩)); have n4_ := Aside0.mk (Kd.R_mono (ok' := fun k_ => some k_ ≠ (.slice Ao41 t446.length co41 : Value).ownBlock ∧ some k_ ≠ (v450 : Value).ownBlock ∧ some k_ ≠ (v476 : Value).ownBlock) (Kd.R_keptB ((Kd.R_types HO455.out BK462.out (by decide))) hkp (fun k_ hk_ hs_ => Or.elim hs_ (fun hs_ => (hk_.1.2.2) hs_) (fun e_ => (hk_.2) e_))) (fun k_ hk_ => ⟨hk_.1.1.1, hk_.1.1.2.1, fun e_ => Or.elim (ho0.1 k_ e_.symm) (fun hs_ => hk_.2.1 (.inl hs_)) (fun hn_ => Nat.not_le.2 hk_.2.2 hn_)⟩)); have n5_ := Aside0.mk (blk_kept (by (with_reducible repeat (first | refine kN ?_ _ | refine kD ?_ | refine kA ?_ _)); exact BK457.out) hkp (fun hs_ => Or.elim hs_ (fun hs_ => (fun e_ => (Kd.Q_ne HO471.out BK457.out (by decide)) e_) hs_) (fun e_ => NB457_462.out e_))); have n6_ := Aside0.mk (hi); have n7_ := Aside0.mk (blk_kept (by (with_reducible repeat (first | refine kN ?_ _ | refine kD ?_ | refine kA ?_ _)); exact BK473.out) hkp (fun hs_ => Or.elim hs_ (fun hs_ => (fun e_ => (Kd.Q_ne HO471.out BK473.out (by decide)) e_) hs_) (fun e_ => NB473_462.out e_))); have n8_ := Aside0.mk (Kd.Q_mono (ok' := fun k_ => some k_ ≠ (.slice Ao41 t446.length co41 : Value).ownBlock ∧ some k_ ≠ (v450 : Value).ownBlock ∧ some k_ ≠ (v454 : Value).ownBlock) ho0 (fun k_ hk_ => ⟨Or.elim hk_ (fun hs_ => fun e_ => ((((Kd.R_types HO448.out BK462.out (by decide))).1 k_ e_.symm).1.2.2) hs_) (fun hn_ => (Kd.fresh' (Kd.R_lt (by (with_reducible repeat (first | apply Kd.R_alloc | apply Kd.R_drewN | apply Kd.R_drew)); exact HO448.out)) k_ hn_)), Or.elim hk_ (fun hs_ => fun e_ => ((((Kd.R_types HO451.out BK462.out (by decide))).1 k_ e_.symm).1.2.2) hs_) (fun hn_ => (Kd.fresh' (Kd.R_lt (by (with_reducible repeat (first | apply Kd.R_alloc | apply Kd.R_drewN | apply Kd.R_drew)); exact HO451.out)) k_ hn_)), Or.elim hk_ (fun hs_ => fun e_ => ((((Kd.R_types HO455.out BK462.out (by decide))).1 k_ e_.symm).1.2.2) hs_) (fun hn_ => (Kd.fresh' (Kd.R_lt (by (with_reducible repeat (first | apply Kd.R_alloc | apply Kd.R_drewN | apply Kd.R_drew)); exact HO455.out)) k_ hn_))⟩)); have n9_ := Aside0.mk (hb); clear BK428; clear BK441; clear HO448; clear HO451; clear HO455; clear BK457; clear BK462; clear BK473; clear HB; clear HO471; have BK428 := n0_; have BK441 := n1_; have HO448 := n2_; have HO451 := n3_; have HO455 := n4_; have BK457 := n5_; have BK462 := n6_; have BK473 := n7_; have HO477 := n8_; have HB := n9_; clear n0_ n1_ n2_ n3_ n4_ n5_ n6_ n7_ n8_ n9_; (try clear hb); (try clear hkp); (try clear hi); (try clear ho0)))
            have n0_ := Aside0.mk (Kd.R_drew HO448.out)
            have n1_ := Aside0.mk (Kd.R_drew HO451.out)
            have n2_ := Aside0.mk (Kd.R_drew HO455.out)
            have n3_ := Aside0.mk (Kd.Q_drew HO477.out)
            have n4_ := Aside0.mk (kD BK428.out)
            have n5_ := Aside0.mk (kD BK441.out)
            have n6_ := Aside0.mk (kD BK457.out)
            have n7_ := Aside0.mk (kD BK462.out)
            have n8_ := Aside0.mk (kD BK473.out)
            have n9_ := Aside0.mk (kE HB.out)
            clear HO448
            clear HO451
            clear HO455
            clear HO477
            clear BK428
            clear BK441
            clear BK457
            clear BK462
            clear BK473
            clear HB
            have HO448 := n0_
            have HO451 := n1_
            have HO455 := n2_
            have HO477 := n3_
            have BK428 := n4_
            have BK441 := n5_
            have BK457 := n6_
            have BK462 := n7_
            have BK473 := n8_
            have HB := n9_
            clear n0_ n1_ n2_ n3_ n4_ n5_ n6_ n7_ n8_ n9_
            refine start_ (n := 32) (S := fun w' => w'.cell? ⟨gb428, 0, none⟩ = some (.int .u8 t431) ∧ w'.cell? ⟨gb428, 1, none⟩ = some (.int .i64 t432) ∧ w'.cell? ⟨gb428, 2, none⟩ = some (.int .i64 t433) ∧ w'.cell? ⟨gb428, 3, none⟩ = some (.int .i64 t434) ∧ w'.cell? ⟨gb428, 4, none⟩ = some (.int .i64 t435) ∧ w'.cell? ⟨gb428, 5, none⟩ = some (.int .u8 x429005_13) ∧ w'.cell? ⟨gb473, 0, none⟩ = some (.int .u8 t463) ∧ w'.cell? ⟨gb473, 1, none⟩ = some (.int .i64 t464) ∧ w'.cell? ⟨gb473, 2, none⟩ = some (.int .i64 t465) ∧ w'.cell? ⟨gb473, 3, none⟩ = some (.int .i64 t466) ∧ w'.cell? ⟨gb473, 4, none⟩ = some (.int .i64 t467) ∧ w'.cell? ⟨gb473, 5, none⟩ = some (.int .u8 t468)) (ds := []) #[F,F,F,F,F,F,F,F,F,F,F,F,F,F,F,F,F,F,F,F,F,F,F,F,F,F,F,F,F,F,F,F] (by kernel_rfl) rfl rfl ⟨(kC BK428.out 0).trans rfl, (kC BK428.out 1).trans rfl, (kC BK428.out 2).trans rfl, (kC BK428.out 3).trans rfl, (kC BK428.out 4).trans rfl, (kC BK428.out 5).trans rfl, (kC BK473.out 0).trans rfl, (kC BK473.out 1).trans rfl, (kC BK473.out 2).trans rfl, (kC BK473.out 3).trans rfl, (kC BK473.out 4).trans rfl, (kC BK473.out 5).trans rfl⟩ (fun hHeld => ?_); refine with_tabW paybooklaw10_OrderNotices.tab12 paybooklaw10_OrderNotices.bits12 (fun HT_ HW_ => ?_)
            generalize w52.drew = w53 at HO448 HO451 HO455 HO477 BK428 BK441 BK457 BK462 BK473 HB hHeld ⊢
            refine pure_ (i := 0) (N := some 38) (v := ?_) (a' := ?_) #[T,F,F,F,F,F,F,F,F,F,F,F,F,F,F,F,F,F,F,F,F,F,F,F,F,F,F,F,F,F,F,F] rfl rfl (any_of HT_.out (by kernel_rfl)) (fun _ _ _ h => h) (Or.inl ⟨by rfl, ?_⟩) ?_ ?_
            rotate_left
            ·intro w'
             go_simp
             with_reducible rfl
            rotate_left
            ·simp only [Act.put, List.setIfInBounds_toArray, List.set_cons_zero, List.set_cons_succ, i64_w, i32_w]
             rfl
            refine take_ (i := 2) (N := some 40) (v := ?_) (a' := ?_) #[T,F,T,F,F,F,F,F,F,F,F,F,F,F,F,F,F,F,F,F,F,F,F,F,F,F,F,F,F,F,F,F] rfl rfl (take_ofW HT_.out HW_.out (by kernel_rfl)) (fun _ _ _ h => h) (Or.inl ⟨by rfl, ?_⟩) hHeld ?_ ?_
            rotate_left
            ·rintro w' ⟨s0, s1, s2, s3, s4, s5, s6, s7, s8, s9, s10, s11⟩
             go_simp
             with_reducible rfl
            rotate_left
            ·simp only [Act.put, List.setIfInBounds_toArray, List.set_cons_zero, List.set_cons_succ, i64_w, i32_w]
             rfl
            refine one_ (i := 1) (N := some 39) #[T,T,T,F,F,F,F,F,F,F,F,F,F,F,F,F,F,F,F,F,F,F,F,F,F,F,F,F,F,F,F,F] rfl rfl (one_of HT_.out (by kernel_rfl)) (by decide) (fun K hK => ?_)
            refine goes_ Try.func21 (by kernel_rfl) rfl #[.pointer (some ⟨gb457, 0, none⟩)] (by rfl) rfl rfl (by (try simp only [List.map_toArray, List.map_cons, List.map_nil]); first | done | rfl | (simp only [List.length_drop, List.length_take]; rfl)) ?_
            with_reducible refine (order_Get.calls kj13 gb457 (fun k_ => some k_ = (v454 : Value).ownBlock) v454 t453 t456 t479 t480 t481 t482 t483 t484 t485 t488 w _ ?side1 ?side2 ?side3 ?side4 A27.out).mono ?_
            (case side1 => repeat (first | (with_reducible first | exact HB.out | apply kL | apply kM | apply kE | refine kS ?_ GE428.out | refine kS ?_ GE441.out | refine kS ?_ GE457.out | refine kS ?_ GE462.out | refine kS ?_ GE473.out) | exact HB.out))
            (case side2 => exact (by (with_reducible repeat (first | refine kN ?_ _ | refine kD ?_ | refine kA ?_ _)); exact BK457.out))
            (case side3 => exact GE457.out)
            (case side4 => exact Kd.Q_tight rfl (Kd.Q_of_R HO455.out))
            rintro e w54 ⟨v486, rfl, ho0, hi, hb, hkp⟩
            refine ⟨_, rfl, ?_⟩
            have n0_ := Aside0.mk (blk_kept (by (with_reducible repeat (first | refine kN ?_ _ | refine kD ?_ | refine kA ?_ _)); exact BK428.out) hkp (fun hs_ => Or.elim hs_ (fun hs_ => (fun e_ => (Kd.R_ne HO455.out BK428.out (by decide)) e_) hs_) (fun e_ => NB428_457.out e_)))
            have n1_ := Aside0.mk (blk_kept (by (with_reducible repeat (first | refine kN ?_ _ | refine kD ?_ | refine kA ?_ _)); exact BK441.out) hkp (fun hs_ => Or.elim hs_ (fun hs_ => (fun e_ => (Kd.R_ne HO455.out BK441.out (by decide)) e_) hs_) (fun e_ => NB441_457.out e_)))
            have n2_ := Aside0.mk (Kd.R_mono (ok' := fun k_ => some k_ ≠ (v450 : Value).ownBlock ∧ some k_ ≠ (v476 : Value).ownBlock ∧ some k_ ≠ (v486 : Value).ownBlock) (Kd.R_keptB ((Kd.R_types HO448.out BK457.out (by decide))) hkp (fun k_ hk_ hs_ => Or.elim hs_ (fun hs_ => (hk_.1.2.1) hs_) (fun e_ => (hk_.2) e_))) (fun k_ hk_ => ⟨hk_.1.1.1, hk_.1.1.2.2, fun e_ => Or.elim (ho0.1 k_ e_.symm) (fun hs_ => hk_.2.1 (.inl hs_)) (fun hn_ => Nat.not_le.2 hk_.2.2 hn_)⟩))
            have n3_ := Aside0.mk (Kd.R_mono (ok' := fun k_ => some k_ ≠ (.slice Ao41 t446.length co41 : Value).ownBlock ∧ some k_ ≠ (v476 : Value).ownBlock ∧ some k_ ≠ (v486 : Value).ownBlock) (Kd.R_keptB ((Kd.R_types HO451.out BK457.out (by decide))) hkp (fun k_ hk_ hs_ => Or.elim hs_ (fun hs_ => (hk_.1.2.1) hs_) (fun e_ => (hk_.2) e_))) (fun k_ hk_ => ⟨hk_.1.1.1, hk_.1.1.2.2, fun e_ => Or.elim (ho0.1 k_ e_.symm) (fun hs_ => hk_.2.1 (.inl hs_)) (fun hn_ => Nat.not_le.2 hk_.2.2 hn_)⟩))
            have n4_ := Aside0.mk (hi)
            have n5_ := Aside0.mk (blk_kept (by (with_reducible repeat (first | refine kN ?_ _ | refine kD ?_ | refine kA ?_ _)); exact BK462.out) hkp (fun hs_ => Or.elim hs_ (fun hs_ => (fun e_ => (Kd.R_ne HO455.out BK462.out (by decide)) e_) hs_) (fun e_ => NB462_457.out e_)))
            have n6_ := Aside0.mk (blk_kept (by (with_reducible repeat (first | refine kN ?_ _ | refine kD ?_ | refine kA ?_ _)); exact BK473.out) hkp (fun hs_ => Or.elim hs_ (fun hs_ => (fun e_ => (Kd.R_ne HO455.out BK473.out (by decide)) e_) hs_) (fun e_ => NB473_457.out e_)))
            have n7_ := Aside0.mk (Kd.Q_mono (ok' := fun k_ => some k_ ≠ (.slice Ao41 t446.length co41 : Value).ownBlock ∧ some k_ ≠ (v450 : Value).ownBlock ∧ some k_ ≠ (v486 : Value).ownBlock) (Kd.Q_keptB ((Kd.Q_types HO477.out BK457.out (by decide))) hkp (fun k_ hk_ hs_ => Or.elim hs_ (fun hs_ => (hk_.1.2.2) hs_) (fun e_ => (hk_.2) e_))) (fun k_ hk_ => ⟨hk_.1.1.1, hk_.1.1.2.1, fun e_ => Or.elim (ho0.1 k_ e_.symm) (fun hs_ => hk_.2.1 (.inl hs_)) (fun hn_ => Nat.not_le.2 hk_.2.2 hn_)⟩))
            have n8_ := Aside0.mk (Kd.Q_mono (ok' := fun k_ => some k_ ≠ (.slice Ao41 t446.length co41 : Value).ownBlock ∧ some k_ ≠ (v450 : Value).ownBlock ∧ some k_ ≠ (v476 : Value).ownBlock) ho0 (fun k_ hk_ => ⟨Or.elim hk_ (fun hs_ => fun e_ => ((((Kd.R_types HO448.out BK457.out (by decide))).1 k_ e_.symm).1.2.1) hs_) (fun hn_ => (Kd.fresh' (Kd.R_lt (by (with_reducible repeat (first | apply Kd.R_alloc | apply Kd.R_drewN | apply Kd.R_drew)); exact HO448.out)) k_ hn_)), Or.elim hk_ (fun hs_ => fun e_ => ((((Kd.R_types HO451.out BK457.out (by decide))).1 k_ e_.symm).1.2.1) hs_) (fun hn_ => (Kd.fresh' (Kd.R_lt (by (with_reducible repeat (first | apply Kd.R_alloc | apply Kd.R_drewN | apply Kd.R_drew)); exact HO451.out)) k_ hn_)), Or.elim hk_ (fun hs_ => fun e_ => ((((Kd.Q_types HO477.out BK457.out (by decide))).1 k_ e_.symm).1.2.2) hs_) (fun hn_ => (Kd.fresh' (Kd.Q_lt (by (with_reducible repeat (first | apply Kd.Q_alloc | apply Kd.Q_drewN | apply Kd.Q_drew)); exact HO477.out)) k_ hn_))⟩))
            have n9_ := Aside0.mk (hb)
            clear BK428
            clear BK441
            clear HO448
            clear HO451
            clear BK457
            clear BK462
            clear BK473
            clear HO477
            clear HB
            clear HO455
            have BK428 := n0_
            have BK441 := n1_
            have HO448 := n2_
            have HO451 := n3_
            have BK457 := n4_
            have BK462 := n5_
            have BK473 := n6_
            have HO477 := n7_
            have HO487 := n8_
            have HB := n9_
            clear n0_ n1_ n2_ n3_ n4_ n5_ n6_ n7_ n8_ n9_
            (try clear hb)
            (try clear hkp)
            (try clear hi)
            (try clear ho0)
            refine hK.out _ _ ⟨(kC BK428.out 0).trans rfl, (kC BK428.out 1).trans rfl, (kC BK428.out 2).trans rfl, (kC BK428.out 3).trans rfl, (kC BK428.out 4).trans rfl, (kC BK428.out 5).trans rfl, (kC BK473.out 0).trans rfl, (kC BK473.out 1).trans rfl, (kC BK473.out 2).trans rfl, (kC BK473.out 3).trans rfl, (kC BK473.out 4).trans rfl, (kC BK473.out 5).trans rfl⟩ (fun hHeld => ?_)
            clear hK K
            refine norm_ (a' := ?_) ?_ ?_
            rotate_left
            ·show Act.put _ (some 39) _ = _
             simp only [Act.put, List.setIfInBounds_toArray, List.set_cons_zero, List.set_cons_succ, i64_w, i32_w]
             rfl
            refine pure_ (i := 3) (N := some 41) (v := ?_) (a' := ?_) #[T,T,T,T,F,F,F,F,F,F,F,F,F,F,F,F,F,F,F,F,F,F,F,F,F,F,F,F,F,F,F,F] rfl rfl (any_of HT_.out (by kernel_rfl)) (fun _ _ _ h => h) (Or.inl ⟨by rfl, ?_⟩) ?_ ?_
            rotate_left
            ·intro w'
             go_simp
             with_reducible rfl
            rotate_left
            ·simp only [Act.put, List.setIfInBounds_toArray, List.set_cons_zero, List.set_cons_succ, i64_w, i32_w]
             rfl
            refine pure_ (i := 4) (N := some 42) (v := ?_) (a' := ?_) #[T,T,T,T,T,F,F,F,F,F,F,F,F,F,F,F,F,F,F,F,F,F,F,F,F,F,F,F,F,F,F,F] rfl rfl (any_of HT_.out (by kernel_rfl)) (fun _ _ _ h => h) (Or.inl ⟨by rfl, ?_⟩) ?_ ?_
            rotate_left
            ·intro w'
             go_simp
             with_reducible rfl
            rotate_left
            ·simp only [Act.put, List.setIfInBounds_toArray, List.set_cons_zero, List.set_cons_succ, i64_w, i32_w]
             rfl
            refine pure_ (i := 5) (N := some 43) (v := ?_) (a' := ?_) #[T,T,T,T,T,T,F,F,F,F,F,F,F,F,F,F,F,F,F,F,F,F,F,F,F,F,F,F,F,F,F,F] rfl rfl (any_of HT_.out (by kernel_rfl)) (fun _ _ _ h => h) (Or.inl ⟨by rfl, ?_⟩) ?_ ?_
            rotate_left
            ·intro w'
             go_simp
             with_reducible rfl
            rotate_left
            ·simp only [Act.put, List.setIfInBounds_toArray, List.set_cons_zero, List.set_cons_succ, i64_w, i32_w]
             rfl
            refine one_ (i := 6) (N := some 44) #[T,T,T,T,T,T,T,F,F,F,F,F,F,F,F,F,F,F,F,F,F,F,F,F,F,F,F,F,F,F,F,F] rfl rfl (one_of HT_.out (by kernel_rfl)) (by decide) (fun K hK => ?_)
            refine goes_ Try.func23 (by kernel_rfl) rfl #[.pointer (some ⟨gb457, 0, none⟩)] (by rfl) rfl rfl (by (try simp only [List.map_toArray, List.map_cons, List.map_nil]); first | done | rfl | (simp only [List.length_drop, List.length_take]; rfl)) ?_
            with_reducible refine (pack_Box_End.calls gb457 (fun k_ => some k_ = (v486 : Value).ownBlock) v486 t485 t488 t489 t490 t493 w _ ?side1 ?side2 ?side3 ?side4 A29.out).mono ?_
            (case side1 => repeat (first | (with_reducible first | exact HB.out | apply kL | apply kM | apply kE | refine kS ?_ GE428.out | refine kS ?_ GE441.out | refine kS ?_ GE457.out | refine kS ?_ GE462.out | refine kS ?_ GE473.out) | exact HB.out))
            (case side2 => exact (by (with_reducible repeat (first | refine kN ?_ _ | refine kD ?_ | refine kA ?_ _)); exact BK457.out))
            (case side3 => exact GE457.out)
            (case side4 => exact Kd.Q_tight rfl HO487.out)
            rintro e w55 ⟨v491, rfl, ho0, hi, hb, hkp⟩
            refine ⟨_, rfl, ?_⟩
            have n0_ := Aside0.mk (blk_kept (by (with_reducible repeat (first | refine kN ?_ _ | refine kD ?_ | refine kA ?_ _)); exact BK428.out) hkp (fun hs_ => Or.elim hs_ (fun hs_ => (fun e_ => (Kd.Q_ne HO487.out BK428.out (by decide)) e_) hs_) (fun e_ => NB428_457.out e_)))
            have n1_ := Aside0.mk (blk_kept (by (with_reducible repeat (first | refine kN ?_ _ | refine kD ?_ | refine kA ?_ _)); exact BK441.out) hkp (fun hs_ => Or.elim hs_ (fun hs_ => (fun e_ => (Kd.Q_ne HO487.out BK441.out (by decide)) e_) hs_) (fun e_ => NB441_457.out e_)))
            have n2_ := Aside0.mk (Kd.R_mono (ok' := fun k_ => some k_ ≠ (v450 : Value).ownBlock ∧ some k_ ≠ (v476 : Value).ownBlock ∧ some k_ ≠ (v491 : Value).ownBlock) (Kd.R_keptB ((Kd.R_types HO448.out BK457.out (by decide))) hkp (fun k_ hk_ hs_ => Or.elim hs_ (fun hs_ => (hk_.1.2.2) hs_) (fun e_ => (hk_.2) e_))) (fun k_ hk_ => ⟨hk_.1.1.1, hk_.1.1.2.1, fun e_ => Or.elim (ho0.1 k_ e_.symm) (fun hs_ => hk_.2.1 (.inl hs_)) (fun hn_ => Nat.not_le.2 hk_.2.2 hn_)⟩))
            have n3_ := Aside0.mk (Kd.R_mono (ok' := fun k_ => some k_ ≠ (.slice Ao41 t446.length co41 : Value).ownBlock ∧ some k_ ≠ (v476 : Value).ownBlock ∧ some k_ ≠ (v491 : Value).ownBlock) (Kd.R_keptB ((Kd.R_types HO451.out BK457.out (by decide))) hkp (fun k_ hk_ hs_ => Or.elim hs_ (fun hs_ => (hk_.1.2.2) hs_) (fun e_ => (hk_.2) e_))) (fun k_ hk_ => ⟨hk_.1.1.1, hk_.1.1.2.1, fun e_ => Or.elim (ho0.1 k_ e_.symm) (fun hs_ => hk_.2.1 (.inl hs_)) (fun hn_ => Nat.not_le.2 hk_.2.2 hn_)⟩))
            have n4_ := Aside0.mk (hi)
            have n5_ := Aside0.mk (blk_kept (by (with_reducible repeat (first | refine kN ?_ _ | refine kD ?_ | refine kA ?_ _)); exact BK462.out) hkp (fun hs_ => Or.elim hs_ (fun hs_ => (fun e_ => (Kd.Q_ne HO487.out BK462.out (by decide)) e_) hs_) (fun e_ => NB462_457.out e_)))
            have n6_ := Aside0.mk (blk_kept (by (with_reducible repeat (first | refine kN ?_ _ | refine kD ?_ | refine kA ?_ _)); exact BK473.out) hkp (fun hs_ => Or.elim hs_ (fun hs_ => (fun e_ => (Kd.Q_ne HO487.out BK473.out (by decide)) e_) hs_) (fun e_ => NB473_457.out e_)))
            have n7_ := Aside0.mk (Kd.Q_mono (ok' := fun k_ => some k_ ≠ (.slice Ao41 t446.length co41 : Value).ownBlock ∧ some k_ ≠ (v450 : Value).ownBlock ∧ some k_ ≠ (v491 : Value).ownBlock) (Kd.Q_keptB ((Kd.Q_types HO477.out BK457.out (by decide))) hkp (fun k_ hk_ hs_ => Or.elim hs_ (fun hs_ => (hk_.1.2.2) hs_) (fun e_ => (hk_.2) e_))) (fun k_ hk_ => ⟨hk_.1.1.1, hk_.1.1.2.1, fun e_ => Or.elim (ho0.1 k_ e_.symm) (fun hs_ => hk_.2.1 (.inl hs_)) (fun hn_ => Nat.not_le.2 hk_.2.2 hn_)⟩))
            have n8_ := Aside0.mk (Kd.Q_mono (ok' := fun k_ => some k_ ≠ (.slice Ao41 t446.length co41 : Value).ownBlock ∧ some k_ ≠ (v450 : Value).ownBlock ∧ some k_ ≠ (v476 : Value).ownBlock) ho0 (fun k_ hk_ => ⟨Or.elim hk_ (fun hs_ => fun e_ => ((((Kd.R_types HO448.out BK457.out (by decide))).1 k_ e_.symm).1.2.2) hs_) (fun hn_ => (Kd.fresh' (Kd.R_lt (by (with_reducible repeat (first | apply Kd.R_alloc | apply Kd.R_drewN | apply Kd.R_drew)); exact HO448.out)) k_ hn_)), Or.elim hk_ (fun hs_ => fun e_ => ((((Kd.R_types HO451.out BK457.out (by decide))).1 k_ e_.symm).1.2.2) hs_) (fun hn_ => (Kd.fresh' (Kd.R_lt (by (with_reducible repeat (first | apply Kd.R_alloc | apply Kd.R_drewN | apply Kd.R_drew)); exact HO451.out)) k_ hn_)), Or.elim hk_ (fun hs_ => fun e_ => ((((Kd.Q_types HO477.out BK457.out (by decide))).1 k_ e_.symm).1.2.2) hs_) (fun hn_ => (Kd.fresh' (Kd.Q_lt (by (with_reducible repeat (first | apply Kd.Q_alloc | apply Kd.Q_drewN | apply Kd.Q_drew)); exact HO477.out)) k_ hn_))⟩))
            have n9_ := Aside0.mk (hb)
            clear BK428
            clear BK441
            clear HO448
            clear HO451
            clear BK457
            clear BK462
            clear BK473
            clear HO477
            clear HB
            clear HO487
            have BK428 := n0_
            have BK441 := n1_
            have HO448 := n2_
            have HO451 := n3_
            have BK457 := n4_
            have BK462 := n5_
            have BK473 := n6_
            have HO477 := n7_
            have HO492 := n8_
            have HB := n9_
            clear n0_ n1_ n2_ n3_ n4_ n5_ n6_ n7_ n8_ n9_
            (try clear hb)
            (try clear hkp)
            (try clear hi)
            (try clear ho0)
            refine hK.out _ _ ⟨(kC BK428.out 0).trans rfl, (kC BK428.out 1).trans rfl, (kC BK428.out 2).trans rfl, (kC BK428.out 3).trans rfl, (kC BK428.out 4).trans rfl, (kC BK428.out 5).trans rfl, (kC BK473.out 0).trans rfl, (kC BK473.out 1).trans rfl, (kC BK473.out 2).trans rfl, (kC BK473.out 3).trans rfl, (kC BK473.out 4).trans rfl, (kC BK473.out 5).trans rfl⟩ (fun hHeld => ?_)
            clear hK K
            refine norm_ (a' := ?_) ?_ ?_
            rotate_left
            ·show Act.put _ (some 44) _ = _
             simp only [Act.put, List.setIfInBounds_toArray, List.set_cons_zero, List.set_cons_succ, i64_w, i32_w]
             rfl
            refine pure_ (i := 7) (N := some 45) (v := ?_) (a' := ?_) #[T,T,T,T,T,T,T,T,F,F,F,F,F,F,F,F,F,F,F,F,F,F,F,F,F,F,F,F,F,F,F,F] rfl rfl (any_of HT_.out (by kernel_rfl)) (fun _ _ _ h => h) (Or.inl ⟨by rfl, ?_⟩) ?_ ?_
            rotate_left
            ·intro w'
             go_simp
             with_reducible rfl
            rotate_left
            ·simp only [Act.put, List.setIfInBounds_toArray, List.set_cons_zero, List.set_cons_succ, i64_w, i32_w]
             rfl
            refine pure_ (i := 8) (N := some 46) (v := ?_) (a' := ?_) #[T,T,T,T,T,T,T,T,T,F,F,F,F,F,F,F,F,F,F,F,F,F,F,F,F,F,F,F,F,F,F,F] rfl rfl (any_of HT_.out (by kernel_rfl)) (fun _ _ _ h => h) (Or.inl ⟨by rfl, ?_⟩) ?_ ?_
            rotate_left
            ·intro w'
             go_simp
             with_reducible rfl
            rotate_left
            ·simp only [Act.put, List.setIfInBounds_toArray, List.set_cons_zero, List.set_cons_succ, i64_w, i32_w]
             rfl
            refine pure_ (i := 9) (N := some 47) (v := ?_) (a' := ?_) #[T,T,T,T,T,T,T,T,T,T,F,F,F,F,F,F,F,F,F,F,F,F,F,F,F,F,F,F,F,F,F,F] rfl rfl (any_of HT_.out (by kernel_rfl)) (fun _ _ _ h => h) (Or.inl ⟨by rfl, ?_⟩) ?_ ?_
            rotate_left
            ·intro w'
             go_simp
             with_reducible rfl
            rotate_left
            ·simp only [Act.put, List.setIfInBounds_toArray, List.set_cons_zero, List.set_cons_succ, i64_w, i32_w]
             rfl
            refine pure_ (i := 10) (N := some 48) (v := ?_) (a' := ?_) #[T,T,T,T,T,T,T,T,T,T,T,F,F,F,F,F,F,F,F,F,F,F,F,F,F,F,F,F,F,F,F,F] rfl rfl (any_of HT_.out (by kernel_rfl)) (fun _ _ _ h => h) (Or.inl ⟨by rfl, ?_⟩) ?_ ?_
            rotate_left
            ·intro w'
             go_simp
             with_reducible rfl
            rotate_left
            ·simp only [Act.put, List.setIfInBounds_toArray, List.set_cons_zero, List.set_cons_succ, i64_w, i32_w]
             rfl
            refine pure_ (i := 11) (N := some 49) (v := ?_) (a' := ?_) #[T,T,T,T,T,T,T,T,T,T,T,T,F,F,F,F,F,F,F,F,F,F,F,F,F,F,F,F,F,F,F,F] rfl rfl (any_of HT_.out (by kernel_rfl)) (fun _ _ _ h => h) (Or.inl ⟨by rfl, ?_⟩) ?_ ?_
            rotate_left
            ·intro w'
             go_simp
             with_reducible rfl
            rotate_left
            ·simp only [Act.put, List.setIfInBounds_toArray, List.set_cons_zero, List.set_cons_succ, i64_w, i32_w]
             rfl
            refine take_ (i := 12) (N := some 50) (v := ?_) (a' := ?_) #[T,T,T,T,T,T,T,T,T,T,T,T,T,F,F,F,F,F,F,F,F,F,F,F,F,F,F,F,F,F,F,F] rfl rfl (take_ofW HT_.out HW_.out (by kernel_rfl)) (fun _ _ _ h => h) (Or.inl ⟨by rfl, ?_⟩) hHeld ?_ ?_
            rotate_left
            ·rintro w' ⟨s0, s1, s2, s3, s4, s5, s6, s7, s8, s9, s10, s11⟩
             go_simp
             with_reducible rfl
            rotate_left
            ·simp only [Act.put, List.setIfInBounds_toArray, List.set_cons_zero, List.set_cons_succ, i64_w, i32_w]
             rfl
            refine one_ (i := 13) (N := some 51) #[T,T,T,T,T,T,T,T,T,T,T,T,T,T,F,F,F,F,F,F,F,F,F,F,F,F,F,F,F,F,F,F] rfl rfl (one_of HT_.out (by kernel_rfl)) (by decide) (fun K hK => ?_)
            refine goes_ Try.func14 (by kernel_rfl) rfl #[.agg #[.int .u8 t463, .int .i64 t464, .int .i64 t465, .int .i64 t466, .int .i64 t467, .int .u8 t468]] (by rfl) rfl rfl (by (try simp only [List.map_toArray, List.map_cons, List.map_nil]); first | done | rfl | (simp only [List.length_drop, List.length_take]; rfl)) ?_
            with_reducible refine (paybooklaw10_key.calls t463 t464 t465 t466 t467 t468 true _ A32.out).mono ?_
            rintro e w56 ⟨rfl, hb⟩
            refine ⟨_, rfl, ?_⟩
            have n0_ := Aside0.mk (Kd.R_below (by (with_reducible repeat (first | apply Kd.R_alloc | apply Kd.R_drewN | apply Kd.R_drew)); exact HO448.out) hb)
            have n1_ := Aside0.mk (Kd.R_below (by (with_reducible repeat (first | apply Kd.R_alloc | apply Kd.R_drewN | apply Kd.R_drew)); exact HO451.out) hb)
            have n2_ := Aside0.mk (Kd.Q_below (by (with_reducible repeat (first | apply Kd.Q_alloc | apply Kd.Q_drewN | apply Kd.Q_drew)); exact HO477.out) hb)
            have n3_ := Aside0.mk (Kd.Q_below (by (with_reducible repeat (first | apply Kd.Q_alloc | apply Kd.Q_drewN | apply Kd.Q_drew)); exact HO492.out) hb)
            have n4_ := Aside0.mk (blk_below (g := gb428) (o := .cells #[.int .u8 t431, .int .i64 t432, .int .i64 t433, .int .i64 t434, .int .i64 t435, .int .u8 x429005_13] 25 (0, 0)) (by (with_reducible repeat (first | refine kN ?_ _ | refine kD ?_ | refine kA ?_ _)); exact BK428.out) hb)
            have n5_ := Aside0.mk (blk_below (g := gb441) (o := .cells #[v450, .int .i64 t452] 60 (0, 0)) (by (with_reducible repeat (first | refine kN ?_ _ | refine kD ?_ | refine kA ?_ _)); exact BK441.out) hb)
            have n6_ := Aside0.mk (blk_below (g := gb457) (o := .cells #[v491, .int .i64 t493] 60 (0, 0)) (by (with_reducible repeat (first | refine kN ?_ _ | refine kD ?_ | refine kA ?_ _)); exact BK457.out) hb)
            have n7_ := Aside0.mk (blk_below (g := gb462) (o := .cells #[v476, .int .i64 t478] 60 (0, 0)) (by (with_reducible repeat (first | refine kN ?_ _ | refine kD ?_ | refine kA ?_ _)); exact BK462.out) hb)
            have n8_ := Aside0.mk (blk_below (g := gb473) (o := .cells #[.int .u8 t463, .int .i64 t464, .int .i64 t465, .int .i64 t466, .int .i64 t467, .int .u8 t468] 25 (0, 0)) (by (with_reducible repeat (first | refine kN ?_ _ | refine kD ?_ | refine kA ?_ _)); exact BK473.out) hb)
            have n9_ := Aside0.mk (below_step (by repeat (first | (with_reducible first | exact HB.out | apply kL | apply kM | apply kE | refine kS ?_ GE428.out | refine kS ?_ GE441.out | refine kS ?_ GE457.out | refine kS ?_ GE462.out | refine kS ?_ GE473.out) | exact HB.out)) hb)
            clear HO448
            clear HO451
            clear HO477
            clear HO492
            clear BK428
            clear BK441
            clear BK457
            clear BK462
            clear BK473
            clear HB
            have HO448 := n0_
            have HO451 := n1_
            have HO477 := n2_
            have HO492 := n3_
            have BK428 := n4_
            have BK441 := n5_
            have BK457 := n6_
            have BK462 := n7_
            have BK473 := n8_
            have HB := n9_
            clear n0_ n1_ n2_ n3_ n4_ n5_ n6_ n7_ n8_ n9_
            (try clear hb)
            (try clear hb2)
            (try clear hk)
            (try clear hi)
            refine hK.out _ _ ⟨(kC BK428.out 0).trans rfl, (kC BK428.out 1).trans rfl, (kC BK428.out 2).trans rfl, (kC BK428.out 3).trans rfl, (kC BK428.out 4).trans rfl, (kC BK428.out 5).trans rfl, (kC BK473.out 0).trans rfl, (kC BK473.out 1).trans rfl, (kC BK473.out 2).trans rfl, (kC BK473.out 3).trans rfl, (kC BK473.out 4).trans rfl, (kC BK473.out 5).trans rfl⟩ (fun hHeld => ?_)
            clear hK K
            refine norm_ (a' := ?_) ?_ ?_
            rotate_left
            ·show Act.put _ (some 51) _ = _
             simp only [Act.put, List.setIfInBounds_toArray, List.set_cons_zero, List.set_cons_succ, i64_w, i32_w]
             rfl
            refine pure_ (i := 14) (N := some 52) (v := ?_) (a' := ?_) #[T,T,T,T,T,T,T,T,T,T,T,T,T,T,T,F,F,F,F,F,F,F,F,F,F,F,F,F,F,F,F,F] rfl rfl (any_of HT_.out (by kernel_rfl)) (fun _ _ _ h => h) (Or.inl ⟨by rfl, ?_⟩) ?_ ?_
            rotate_left
            ·intro w'
             go_simp
             with_reducible rfl
            rotate_left
            ·simp only [Act.put, List.setIfInBounds_toArray, List.set_cons_zero, List.set_cons_succ, i64_w, i32_w]
             rfl
            refine pure_ (i := 15) (N := some 53) (v := ?_) (a' := ?_) #[T,T,T,T,T,T,T,T,T,T,T,T,T,T,T,T,F,F,F,F,F,F,F,F,F,F,F,F,F,F,F,F] rfl rfl (any_of HT_.out (by kernel_rfl)) (fun _ _ _ h => h) (Or.inl ⟨by rfl, ?_⟩) ?_ ?_
            rotate_left
            ·intro w'
             go_simp
             with_reducible rfl
            rotate_left
            ·simp only [Act.put, List.setIfInBounds_toArray, List.set_cons_zero, List.set_cons_succ, i64_w, i32_w]
             rfl
            refine take_ (i := 16) (N := some 54) (v := ?_) (a' := ?_) #[T,T,T,T,T,T,T,T,T,T,T,T,T,T,T,T,T,F,F,F,F,F,F,F,F,F,F,F,F,F,F,F] rfl rfl (take_ofW HT_.out HW_.out (by kernel_rfl)) (fun _ _ _ h => h) (Or.inl ⟨by rfl, ?_⟩) hHeld ?_ ?_
            rotate_left
            ·rintro w' ⟨s0, s1, s2, s3, s4, s5, s6, s7, s8, s9, s10, s11⟩
             go_simp
             with_reducible rfl
            rotate_left
            ·simp only [Act.put, List.setIfInBounds_toArray, List.set_cons_zero, List.set_cons_succ, i64_w, i32_w]
             rfl
            refine pure_ (i := 17) (N := some 55) (v := ?_) (a' := ?_) #[T,T,T,T,T,T,T,T,T,T,T,T,T,T,T,T,T,T,F,F,F,F,F,F,F,F,F,F,F,F,F,F] rfl rfl (any_of HT_.out (by kernel_rfl)) (fun _ _ _ h => h) (Or.inl ⟨by rfl, ?_⟩) ?_ ?_
            rotate_left
            ·intro w'
             go_simp
             with_reducible rfl
            rotate_left
            ·simp only [Act.put, List.setIfInBounds_toArray, List.set_cons_zero, List.set_cons_succ, i64_w, i32_w]
             rfl
            refine pure_ (i := 18) (N := some 56) (v := ?_) (a' := ?_) #[T,T,T,T,T,T,T,T,T,T,T,T,T,T,T,T,T,T,T,F,F,F,F,F,F,F,F,F,F,F,F,F] rfl rfl (any_of HT_.out (by kernel_rfl)) (fun _ _ _ h => h) (Or.inl ⟨by rfl, ?_⟩) ?_ ?_
            rotate_left
            ·intro w'
             go_simp
             with_reducible rfl
            rotate_left
            ·simp only [Act.put, List.setIfInBounds_toArray, List.set_cons_zero, List.set_cons_succ, i64_w, i32_w]
             rfl
            refine pure_ (i := 19) (N := some 57) (v := ?_) (a' := ?_) #[T,T,T,T,T,T,T,T,T,T,T,T,T,T,T,T,T,T,T,T,F,F,F,F,F,F,F,F,F,F,F,F] rfl rfl (any_of HT_.out (by kernel_rfl)) (fun _ _ _ h => h) (Or.inl ⟨by rfl, ?_⟩) ?_ ?_
            rotate_left
            ·intro w'
             go_simp
             with_reducible rfl
            rotate_left
            ·simp only [Act.put, List.setIfInBounds_toArray, List.set_cons_zero, List.set_cons_succ, i64_w, i32_w]
             rfl
            refine pure_ (i := 20) (N := some 58) (v := ?_) (a' := ?_) #[T,T,T,T,T,T,T,T,T,T,T,T,T,T,T,T,T,T,T,T,T,F,F,F,F,F,F,F,F,F,F,F] rfl rfl (any_of HT_.out (by kernel_rfl)) (fun _ _ _ h => h) (Or.inl ⟨by rfl, ?_⟩) ?_ ?_
            rotate_left
            ·intro w'
             go_simp
             with_reducible rfl
            rotate_left
            ·simp only [Act.put, List.setIfInBounds_toArray, List.set_cons_zero, List.set_cons_succ, i64_w, i32_w]
             rfl
            refine take_ (i := 21) (N := some 59) (v := ?_) (a' := ?_) #[T,T,T,T,T,T,T,T,T,T,T,T,T,T,T,T,T,T,T,T,T,T,F,F,F,F,F,F,F,F,F,F] rfl rfl (take_ofW HT_.out HW_.out (by kernel_rfl)) (fun _ _ _ h => h) (Or.inl ⟨by rfl, ?_⟩) hHeld ?_ ?_
            rotate_left
            ·rintro w' ⟨s0, s1, s2, s3, s4, s5, s6, s7, s8, s9, s10, s11⟩
             go_simp
             with_reducible rfl
            rotate_left
            ·simp only [Act.put, List.setIfInBounds_toArray, List.set_cons_zero, List.set_cons_succ, i64_w, i32_w]
             rfl
            refine pure_ (i := 22) (N := some 60) (v := ?_) (a' := ?_) #[T,T,T,T,T,T,T,T,T,T,T,T,T,T,T,T,T,T,T,T,T,T,T,F,F,F,F,F,F,F,F,F] rfl rfl (any_of HT_.out (by kernel_rfl)) (fun _ _ _ h => h) (Or.inl ⟨by rfl, ?_⟩) ?_ ?_
            rotate_left
            ·intro w'
             go_simp
             with_reducible rfl
            rotate_left
            ·simp only [Act.put, List.setIfInBounds_toArray, List.set_cons_zero, List.set_cons_succ, i64_w, i32_w]
             rfl
            refine pure_ (i := 23) (N := some 61) (v := ?_) (a' := ?_) #[T,T,T,T,T,T,T,T,T,T,T,T,T,T,T,T,T,T,T,T,T,T,T,T,F,F,F,F,F,F,F,F] rfl rfl (any_of HT_.out (by kernel_rfl)) (fun _ _ _ h => h) (Or.inl ⟨by rfl, ?_⟩) ?_ ?_
            rotate_left
            ·intro w'
             go_simp
             with_reducible rfl
            rotate_left
            ·simp only [Act.put, List.setIfInBounds_toArray, List.set_cons_zero, List.set_cons_succ, i64_w, i32_w]
             rfl
            refine pure_ (i := 24) (N := some 62) (v := ?_) (a' := ?_) #[T,T,T,T,T,T,T,T,T,T,T,T,T,T,T,T,T,T,T,T,T,T,T,T,T,F,F,F,F,F,F,F] rfl rfl (any_of HT_.out (by kernel_rfl)) (fun _ _ _ h => h) (Or.inl ⟨by rfl, ?_⟩) ?_ ?_
            rotate_left
            ·intro w'
             go_simp
             with_reducible rfl
            rotate_left
            ·simp only [Act.put, List.setIfInBounds_toArray, List.set_cons_zero, List.set_cons_succ, i64_w, i32_w]
             rfl
            refine pure_ (i := 25) (N := some 63) (v := ?_) (a' := ?_) #[T,T,T,T,T,T,T,T,T,T,T,T,T,T,T,T,T,T,T,T,T,T,T,T,T,T,F,F,F,F,F,F] rfl rfl (any_of HT_.out (by kernel_rfl)) (fun _ _ _ h => h) (Or.inl ⟨by rfl, ?_⟩) ?_ ?_
            rotate_left
            ·intro w'
             go_simp
             with_reducible rfl
            rotate_left
            ·simp only [Act.put, List.setIfInBounds_toArray, List.set_cons_zero, List.set_cons_succ, i64_w, i32_w]
             rfl
            refine take_ (i := 26) (N := some 64) (v := ?_) (a' := ?_) #[T,T,T,T,T,T,T,T,T,T,T,T,T,T,T,T,T,T,T,T,T,T,T,T,T,T,T,F,F,F,F,F] rfl rfl (take_ofW HT_.out HW_.out (by kernel_rfl)) (fun _ _ _ h => h) (Or.inl ⟨by rfl, ?_⟩) hHeld ?_ ?_
            rotate_left
            ·rintro w' ⟨s0, s1, s2, s3, s4, s5, s6, s7, s8, s9, s10, s11⟩
             go_simp
             with_reducible rfl
            rotate_left
            ·simp only [Act.put, List.setIfInBounds_toArray, List.set_cons_zero, List.set_cons_succ, i64_w, i32_w]
             rfl
            refine pure_ (i := 27) (N := some 65) (v := ?_) (a' := ?_) #[T,T,T,T,T,T,T,T,T,T,T,T,T,T,T,T,T,T,T,T,T,T,T,T,T,T,T,T,F,F,F,F] rfl rfl (any_of HT_.out (by kernel_rfl)) (fun _ _ _ h => h) (Or.inl ⟨by rfl, ?_⟩) ?_ ?_
            rotate_left
            ·intro w'
             go_simp
             with_reducible rfl
            rotate_left
            ·simp only [Act.put, List.setIfInBounds_toArray, List.set_cons_zero, List.set_cons_succ, i64_w, i32_w]
             rfl
            refine pure_ (i := 28) (N := some 66) (v := ?_) (a' := ?_) #[T,T,T,T,T,T,T,T,T,T,T,T,T,T,T,T,T,T,T,T,T,T,T,T,T,T,T,T,T,F,F,F] rfl rfl (any_of HT_.out (by kernel_rfl)) (fun _ _ _ h => h) (Or.inl ⟨by rfl, ?_⟩) ?_ ?_
            rotate_left
            ·intro w'
             go_simp
             with_reducible rfl
            rotate_left
            ·simp only [Act.put, List.setIfInBounds_toArray, List.set_cons_zero, List.set_cons_succ, i64_w, i32_w]
             rfl
            refine pure_ (i := 29) (N := some 67) (v := ?_) (a' := ?_) #[T,T,T,T,T,T,T,T,T,T,T,T,T,T,T,T,T,T,T,T,T,T,T,T,T,T,T,T,T,T,F,F] rfl rfl (any_of HT_.out (by kernel_rfl)) (fun _ _ _ h => h) (Or.inl ⟨by rfl, ?_⟩) ?_ ?_
            rotate_left
            ·intro w'
             go_simp
             with_reducible rfl
            rotate_left
            ·simp only [Act.put, List.setIfInBounds_toArray, List.set_cons_zero, List.set_cons_succ, i64_w, i32_w]
             rfl
            refine pure_ (i := 30) (N := some 68) (v := ?_) (a' := ?_) #[T,T,T,T,T,T,T,T,T,T,T,T,T,T,T,T,T,T,T,T,T,T,T,T,T,T,T,T,T,T,T,F] rfl rfl (any_of HT_.out (by kernel_rfl)) (fun _ _ _ h => h) (Or.inl ⟨by rfl, ?_⟩) ?_ ?_
            rotate_left
            ·intro w'
             go_simp
             with_reducible rfl
            rotate_left
            ·simp only [Act.put, List.setIfInBounds_toArray, List.set_cons_zero, List.set_cons_succ, i64_w, i32_w]
             rfl
            refine pure_ (i := 31) (N := some 6) (v := ?_) (a' := ?_) #[T,T,T,T,T,T,T,T,T,T,T,T,T,T,T,T,T,T,T,T,T,T,T,T,T,T,T,T,T,T,T,T] rfl rfl (any_of HT_.out (by kernel_rfl)) (fun _ _ _ h => h) (Or.inl ⟨by rfl, ?_⟩) ?_ ?_
            rotate_left
            ·intro w'
             go_simp
             with_reducible rfl
            rotate_left
            ·simp only [Act.put, List.setIfInBounds_toArray, List.set_cons_zero, List.set_cons_succ, i64_w, i32_w]
             rfl
            refine done_ (done_of HT_.out (by kernel_rfl)) ?_
            try go_wp2
            go_ret
            exact ⟨by first | rfl | (simp [errW_none, errW_some] <;> rfl) | (simp [*, errW_none, errW_some] <;> rfl), by repeat (first | (with_reducible first | exact HB.out | apply kL | apply kM | apply kE | refine kS ?_ GE428.out | refine kS ?_ GE441.out | refine kS ?_ GE457.out | refine kS ?_ GE462.out | refine kS ?_ GE473.out) | exact HB.out)⟩
           ·rw [if_neg c35] at H
            have c35b0 : decide (t463 ≤ 5) = false := decide_eq_false c35
            clear c35
            exact absurd H (by simp)
          ·rw [if_neg c34] at H
           have c34b0 : decide (1 ≤ t463) = false := decide_eq_false c34
           clear c34
           exact absurd H (by simp)
         ·replace c33 := Bool.eq_false_iff.mpr c33
          subst c33
          have H1 : (some false) = some true := by rw [if_neg (show ¬ (false = true) by decide)] at H; try exact H
          clear H
          have H := H1
          clear H1
          exact absurd H (by simp)
        ·rw [if_neg c31] at H
         have c31b0 : (t474 == 0) = false := beq_eq_false_iff_ne.mpr c31
         have c31b1 : (t474 != 0) = true := bne_iff_ne.mpr c31
         clear H
         try go_wp2_with (first | (go_at_call 17; (with_reducible refine (pack_New.calls  t437 t440 _ A20.out).mono ?_); rintro e w57 ⟨v438, gb441, rfl, ho0, hnb441, hnl441, hb⟩; have n0_ := Aside0.mk (Kd.R_lower ho0 (below_size (by repeat (first | (with_reducible first | exact HB.out | apply kL | apply kM | apply kE | refine kS ?_ GE428.out) | exact HB.out)))); have n1_ := Aside0.mk (blk_below (g := gb428) (o := .cells #[.int .u8 t431, .int .i64 t432, .int .i64 t433, .int .i64 t434, .int .i64 t435, .int .u8 x429005_13] 25 (0, 0)) (by (with_reducible repeat (first | refine kN ?_ _ | refine kD ?_ | refine kA ?_ _)); exact BK428.out) hb); have n2_ := Aside0.mk (hnb441); have n3_ := Aside0.mk ((Nat.le_trans (below_size (by repeat (first | (with_reducible first | exact HB.out | apply kL | apply kM | apply kE | refine kS ?_ GE428.out) | exact HB.out))) hnl441 : w.heap.size ≤ gb441)); have n4_ := Aside0.mk ((Nat.le_trans (below_size (by repeat (first | (with_reducible first | exact HB.out | apply kL | apply kM | apply kE | refine kS ?_ GE428.out) | exact HB.out))) hnl441 : w.heap.size ≤ gb441)); have n5_ := Aside0.mk ((Nat.ne_of_lt (Nat.lt_of_lt_of_le (blk_lt (g := gb428) (o := .cells #[.int .u8 t431, .int .i64 t432, .int .i64 t433, .int .i64 t434, .int .i64 t435, .int .u8 x429005_13] 25 (0, 0)) (by (with_reducible repeat (first | refine kN ?_ _ | refine kD ?_ | refine kA ?_ _)); exact BK428.out)) hnl441) : gb428 ≠ gb441)); have n6_ := Aside0.mk ((Nat.ne_of_gt (Nat.lt_of_lt_of_le (blk_lt (g := gb428) (o := .cells #[.int .u8 t431, .int .i64 t432, .int .i64 t433, .int .i64 t434, .int .i64 t435, .int .u8 x429005_13] 25 (0, 0)) (by (with_reducible repeat (first | refine kN ?_ _ | refine kD ?_ | refine kA ?_ _)); exact BK428.out)) hnl441) : gb441 ≠ gb428)); have n7_ := Aside0.mk (below_step (by repeat (first | (with_reducible first | exact HB.out | apply kL | apply kM | apply kE | refine kS ?_ GE428.out) | exact HB.out)) hb); clear BK428; clear HB; have HO439 := n0_; have BK428 := n1_; have BK441 := n2_; have GW441 := n3_; have GE441 := n4_; have NB428_441 := n5_; have NB441_428 := n6_; have HB := n7_; clear n0_ n1_ n2_ n3_ n4_ n5_ n6_ n7_; (try clear hb); (try clear hb2); (try clear hk); (try clear hi); (try clear ho0)) | ((with_reducible refine gate_callee (f := 17) rfl ?_); refine goesL_ (some 24) rfl rfl Try.func17 (by kernel_rfl) rfl #[] rfl (by (try simp only [List.map_toArray, List.map_cons, List.map_nil]); first | done | rfl | (simp only [List.length_drop, List.length_take]; rfl)) ?_; (with_reducible refine (pack_New.calls  t437 t440 _ A20.out).mono ?_); rintro e w57 ⟨v438, gb441, rfl, ho0, hnb441, hnl441, hb⟩; refine ⟨_, rfl, ?_⟩; have n0_ := Aside0.mk (Kd.R_lower ho0 (below_size (by repeat (first | (with_reducible first | exact HB.out | apply kL | apply kM | apply kE | refine kS ?_ GE428.out) | exact HB.out)))); have n1_ := Aside0.mk (blk_below (g := gb428) (o := .cells #[.int .u8 t431, .int .i64 t432, .int .i64 t433, .int .i64 t434, .int .i64 t435, .int .u8 x429005_13] 25 (0, 0)) (by (with_reducible repeat (first | refine kN ?_ _ | refine kD ?_ | refine kA ?_ _)); exact BK428.out) hb); have n2_ := Aside0.mk (hnb441); have n3_ := Aside0.mk ((Nat.le_trans (below_size (by repeat (first | (with_reducible first | exact HB.out | apply kL | apply kM | apply kE | refine kS ?_ GE428.out) | exact HB.out))) hnl441 : w.heap.size ≤ gb441)); have n4_ := Aside0.mk ((Nat.le_trans (below_size (by repeat (first | (with_reducible first | exact HB.out | apply kL | apply kM | apply kE | refine kS ?_ GE428.out) | exact HB.out))) hnl441 : w.heap.size ≤ gb441)); have n5_ := Aside0.mk ((Nat.ne_of_lt (Nat.lt_of_lt_of_le (blk_lt (g := gb428) (o := .cells #[.int .u8 t431, .int .i64 t432, .int .i64 t433, .int .i64 t434, .int .i64 t435, .int .u8 x429005_13] 25 (0, 0)) (by (with_reducible repeat (first | refine kN ?_ _ | refine kD ?_ | refine kA ?_ _)); exact BK428.out)) hnl441) : gb428 ≠ gb441)); have n6_ := Aside0.mk ((Nat.ne_of_gt (Nat.lt_of_lt_of_le (blk_lt (g := gb428) (o := .cells #[.int .u8 t431, .int .i64 t432, .int .i64 t433, .int .i64 t434, .int .i64 t435, .int .u8 x429005_13] 25 (0, 0)) (by (with_reducible repeat (first | refine kN ?_ _ | refine kD ?_ | refine kA ?_ _)); exact BK428.out)) hnl441) : gb441 ≠ gb428)); have n7_ := Aside0.mk (below_step (by repeat (first | (with_reducible first | exact HB.out | apply kL | apply kM | apply kE | refine kS ?_ GE428.out) | exact HB.out)) hb); clear BK428; clear HB; have HO439 := n0_; have BK428 := n1_; have BK441 := n2_; have GW441 := n3_; have GE441 := n4_; have NB428_441 := n5_; have NB441_428 := n6_; have HB := n7_; clear n0_ n1_ n2_ n3_ n4_ n5_ n6_ n7_; (try clear hb); (try clear hb2); (try clear hk); (try clear hi); (try clear ho0); have hnb58 := NB428_441.out; have hnc58 := NB441_428.out; obtain ⟨hcz59_0, hcz59_1, hcz59_2, hcz59_3, hcz59_4, hcz59_5, hfz59_0, hfz59_1, hfz59_2, hfz59_3, hfz59_4, hfz59_5⟩ := bxc6 BK428.out) | ((with_reducible refine gate_callee (f := 18) rfl ?_); refine goesL_ (some 27) rfl rfl Try.func18 (by kernel_rfl) rfl #[.pointer (some ⟨gb441, 0, none⟩), .agg #[.int .u8 t431, .int .i64 t432, .int .i64 t433, .int .i64 t434, .int .i64 t435, .int .u8 x429005_13]] rfl (by (try simp only [List.map_toArray, List.map_cons, List.map_nil]); first | done | rfl | (simp only [List.length_drop, List.length_take]; rfl)) ?_; (with_reducible refine (order_Put.calls kj13 gb441 (fun k_ => some k_ = (v438 : Value).ownBlock) v438 t437 t440 t431 t432 t433 t434 t435 x429005_13 t442 t445 w _ ?side1 ?side2 ?side3 ?side4 A21.out).mono ?_); (case side1 => repeat (first | (with_reducible first | exact HB.out | apply kL | apply kM | apply kE | refine kS ?_ GE428.out | refine kS ?_ GE441.out) | exact HB.out)); (case side2 => exact (by (with_reducible repeat (first | refine kN ?_ _ | refine kD ?_ | refine kA ?_ _)); exact BK441.out)); (case side3 => exact GE441.out); (case side4 => exact Kd.R_tight rfl HO439.out); rintro e w60 ⟨v443, rfl, ho0, hi, hb, hkp⟩; refine ⟨_, rfl, ?_⟩; have n0_ := Aside0.mk (blk_kept (by (with_reducible repeat (first | refine kN ?_ _ | refine kD ?_ | refine kA ?_ _)); exact BK428.out) hkp (fun hs_ => Or.elim hs_ (fun hs_ => (fun e_ => (Kd.R_ne HO439.out BK428.out (by decide)) e_) hs_) (fun e_ => NB428_441.out e_))); have n1_ := Aside0.mk (hi); have n2_ := Aside0.mk (Kd.R_mono (ok' := fun k_ => True) ho0 (fun k_ hk_ => trivial)); have n3_ := Aside0.mk (hb); clear BK428; clear BK441; clear HB; clear HO439; have BK428 := n0_; have BK441 := n1_; have HO444 := n2_; have HB := n3_; clear n0_ n1_ n2_ n3_; (try clear hb); (try clear hkp); (try clear hi); (try clear ho0)) | ((with_reducible refine gate_callee (f := 20) rfl ?_); refine goesL_ (some 29) rfl rfl Try.func20 (by kernel_rfl) rfl #[.pointer (some ⟨gb441, 0, none⟩)] rfl (by (try simp only [List.map_toArray, List.map_cons, List.map_nil]); first | done | rfl | (simp only [List.length_drop, List.length_take]; rfl)) ?_; (with_reducible refine (pack_Box_Done.calls gb441 (fun k_ => some k_ = (v443 : Value).ownBlock) v443 t442 t445 t446 t449 t452 w _ ?side1 ?side2 ?side3 ?side4 A22.out).mono ?_); (case side1 => repeat (first | (with_reducible first | exact HB.out | apply kL | apply kM | apply kE | refine kS ?_ GE428.out | refine kS ?_ GE441.out) | exact HB.out)); (case side2 => exact (by (with_reducible repeat (first | refine kN ?_ _ | refine kD ?_ | refine kA ?_ _)); exact BK441.out)); (case side3 => exact GE441.out); (case side4 => exact Kd.R_tight rfl HO444.out); rintro e w61 ⟨v447, v450, rfl, ho0, ho1, hi, hb, hkp⟩; refine ⟨_, rfl, ?_⟩; have n0_ := Aside0.mk (blk_kept (by (with_reducible repeat (first | refine kN ?_ _ | refine kD ?_ | refine kA ?_ _)); exact BK428.out) hkp (fun hs_ => Or.elim hs_ (fun hs_ => (fun e_ => (Kd.R_ne HO444.out BK428.out (by decide)) e_) hs_) (fun e_ => NB428_441.out e_))); have n1_ := Aside0.mk (hi); have n2_ := Aside0.mk (Kd.R_mono (ok' := fun k_ => some k_ ≠ (v450 : Value).ownBlock) ho0 (fun k_ hk_ => hk_.2)); have n3_ := Aside0.mk (Kd.R_mono (ok' := fun k_ => some k_ ≠ (v447 : Value).ownBlock) ho1 (fun k_ hk_ => hk_.2)); have n4_ := Aside0.mk (hb); clear BK428; clear BK441; clear HB; clear HO444; have BK428 := n0_; have BK441 := n1_; have HO448 := n2_; have HO451 := n3_; have HB := n4_; clear n0_ n1_ n2_ n3_ n4_; (try clear hb); (try clear hkp); (try clear hi); (try clear ho0); (try clear ho1); obtain ⟨Ao62, co62, eo62⟩ := Kd.R_slice HO448.out; subst eo62) | ((with_reducible refine gate_callee (f := 19) rfl ?_); refine goesL_ (some 30) rfl rfl Try.func19 (by kernel_rfl) rfl #[.slice Ao62 t446.length co62] rfl (by (try simp only [List.map_toArray, List.map_cons, List.map_nil]); first | done | rfl | (simp only [List.length_drop, List.length_take]; rfl)) ?_; (with_reducible refine (pack_Of.calls _ _ t446 t453 t456 _ ?side1 ?side2 A23.out).mono ?_); (case side1 => repeat (first | exact (Kd.R_reads' HO448.out).2.2 | (with_reducible refine Kd.C_alloc ?_ _) | (with_reducible refine Kd.C_drewN ?_ _) | (with_reducible refine Kd.C_drew ?_))); (case side2 => exact (Kd.R_reads' HO448.out).2.1); rintro e w63 ⟨v454, gb457, rfl, ho0, hnb457, hnl457, hb⟩; refine ⟨_, rfl, ?_⟩; have n0_ := Aside0.mk (Kd.R_elder' (by (with_reducible repeat (first | apply Kd.R_alloc | apply Kd.R_drewN | apply Kd.R_drew)); exact HO448.out) (Kd.R_base ho0) hb); have n1_ := Aside0.mk (Kd.R_elder' (by (with_reducible repeat (first | apply Kd.R_alloc | apply Kd.R_drewN | apply Kd.R_drew)); exact HO451.out) (Kd.R_base ho0) hb); have n2_ := Aside0.mk (Kd.R_lower (Kd.R_new' (Kd.R_new' ho0 (Kd.R_lt (by (with_reducible repeat (first | apply Kd.R_alloc | apply Kd.R_drewN | apply Kd.R_drew)); exact HO448.out))) (Kd.R_lt (by (with_reducible repeat (first | apply Kd.R_alloc | apply Kd.R_drewN | apply Kd.R_drew)); exact HO451.out))) (below_size (by repeat (first | (with_reducible first | exact HB.out | apply kL | apply kM | apply kE | refine kS ?_ GE428.out | refine kS ?_ GE441.out) | exact HB.out)))); have n3_ := Aside0.mk (blk_below (g := gb428) (o := .cells #[.int .u8 t431, .int .i64 t432, .int .i64 t433, .int .i64 t434, .int .i64 t435, .int .u8 x429005_13] 25 (0, 0)) (by (with_reducible repeat (first | refine kN ?_ _ | refine kD ?_ | refine kA ?_ _)); exact BK428.out) hb); have n4_ := Aside0.mk (blk_below (g := gb441) (o := .cells #[v450, .int .i64 t452] 60 (0, 0)) (by (with_reducible repeat (first | refine kN ?_ _ | refine kD ?_ | refine kA ?_ _)); exact BK441.out) hb); have n5_ := Aside0.mk (hnb457); have n6_ := Aside0.mk ((Nat.le_trans (below_size (by repeat (first | (with_reducible first | exact HB.out | apply kL | apply kM | apply kE | refine kS ?_ GE428.out | refine kS ?_ GE441.out) | exact HB.out))) hnl457 : w.heap.size ≤ gb457)); have n7_ := Aside0.mk ((Nat.le_trans (below_size (by repeat (first | (with_reducible first | exact HB.out | apply kL | apply kM | apply kE | refine kS ?_ GE428.out | refine kS ?_ GE441.out) | exact HB.out))) hnl457 : w.heap.size ≤ gb457)); have n8_ := Aside0.mk ((Nat.ne_of_lt (Nat.lt_of_lt_of_le (blk_lt (g := gb428) (o := .cells #[.int .u8 t431, .int .i64 t432, .int .i64 t433, .int .i64 t434, .int .i64 t435, .int .u8 x429005_13] 25 (0, 0)) (by (with_reducible repeat (first | refine kN ?_ _ | refine kD ?_ | refine kA ?_ _)); exact BK428.out)) hnl457) : gb428 ≠ gb457)); have n9_ := Aside0.mk ((Nat.ne_of_gt (Nat.lt_of_lt_of_le (blk_lt (g := gb428) (o := .cells #[.int .u8 t431, .int .i64 t432, .int .i64 t433, .int .i64 t434, .int .i64 t435, .int .u8 x429005_13] 25 (0, 0)) (by (with_reducible repeat (first | refine kN ?_ _ | refine kD ?_ | refine kA ?_ _)); exact BK428.out)) hnl457) : gb457 ≠ gb428)); have n10_ := Aside0.mk ((Nat.ne_of_lt (Nat.lt_of_lt_of_le (blk_lt (g := gb441) (o := .cells #[v450, .int .i64 t452] 60 (0, 0)) (by (with_reducible repeat (first | refine kN ?_ _ | refine kD ?_ | refine kA ?_ _)); exact BK441.out)) hnl457) : gb441 ≠ gb457)); have n11_ := Aside0.mk ((Nat.ne_of_gt (Nat.lt_of_lt_of_le (blk_lt (g := gb441) (o := .cells #[v450, .int .i64 t452] 60 (0, 0)) (by (with_reducible repeat (first | refine kN ?_ _ | refine kD ?_ | refine kA ?_ _)); exact BK441.out)) hnl457) : gb457 ≠ gb441)); have n12_ := Aside0.mk (below_step (by repeat (first | (with_reducible first | exact HB.out | apply kL | apply kM | apply kE | refine kS ?_ GE428.out | refine kS ?_ GE441.out) | exact HB.out)) hb); clear HO448; clear HO451; clear BK428; clear BK441; clear HB; have HO448 := n0_; have HO451 := n1_; have HO455 := n2_; have BK428 := n3_; have BK441 := n4_; have BK457 := n5_; have GW457 := n6_; have GE457 := n7_; have NB428_457 := n8_; have NB457_428 := n9_; have NB441_457 := n10_; have NB457_441 := n11_; have HB := n12_; clear n0_ n1_ n2_ n3_ n4_ n5_ n6_ n7_ n8_ n9_ n10_ n11_ n12_; (try clear hb); (try clear hb2); (try clear hk); (try clear hi); (try clear ho0)) | ((with_reducible refine gate_callee (f := 19) rfl ?_); refine goesL_ (some 32) rfl rfl Try.func19 (by kernel_rfl) rfl #[.slice A2 l2.length c2] rfl (by (try simp only [List.map_toArray, List.map_cons, List.map_nil]); first | done | rfl | (simp only [List.length_drop, List.length_take]; rfl)) ?_; (with_reducible refine (pack_Of.calls _ _ l2 t458 t461 _ ?side1 ?side2 A24.out).mono ?_); (case side1 => repeat (first | exact (Kd.C_below HR2.out HB.out) | exact HR2.out | (with_reducible refine Kd.C_alloc ?_ _) | (with_reducible refine Kd.C_drewN ?_ _) | (with_reducible refine Kd.C_drew ?_))); (case side2 => exact HC2.out); rintro e w64 ⟨v459, gb462, rfl, ho0, hnb462, hnl462, hb⟩; refine ⟨_, rfl, ?_⟩; have n0_ := Aside0.mk (Kd.R_elder' (by (with_reducible repeat (first | apply Kd.R_alloc | apply Kd.R_drewN | apply Kd.R_drew)); exact HO448.out) (Kd.R_base ho0) hb); have n1_ := Aside0.mk (Kd.R_elder' (by (with_reducible repeat (first | apply Kd.R_alloc | apply Kd.R_drewN | apply Kd.R_drew)); exact HO451.out) (Kd.R_base ho0) hb); have n2_ := Aside0.mk (Kd.R_elder' (by (with_reducible repeat (first | apply Kd.R_alloc | apply Kd.R_drewN | apply Kd.R_drew)); exact HO455.out) (Kd.R_base ho0) hb); have n3_ := Aside0.mk (Kd.R_lower (Kd.R_new' (Kd.R_new' (Kd.R_new' ho0 (Kd.R_lt (by (with_reducible repeat (first | apply Kd.R_alloc | apply Kd.R_drewN | apply Kd.R_drew)); exact HO448.out))) (Kd.R_lt (by (with_reducible repeat (first | apply Kd.R_alloc | apply Kd.R_drewN | apply Kd.R_drew)); exact HO451.out))) (Kd.R_lt (by (with_reducible repeat (first | apply Kd.R_alloc | apply Kd.R_drewN | apply Kd.R_drew)); exact HO455.out))) (below_size (by repeat (first | (with_reducible first | exact HB.out | apply kL | apply kM | apply kE | refine kS ?_ GE428.out | refine kS ?_ GE441.out | refine kS ?_ GE457.out) | exact HB.out)))); have n4_ := Aside0.mk (blk_below (g := gb428) (o := .cells #[.int .u8 t431, .int .i64 t432, .int .i64 t433, .int .i64 t434, .int .i64 t435, .int .u8 x429005_13] 25 (0, 0)) (by (with_reducible repeat (first | refine kN ?_ _ | refine kD ?_ | refine kA ?_ _)); exact BK428.out) hb); have n5_ := Aside0.mk (blk_below (g := gb441) (o := .cells #[v450, .int .i64 t452] 60 (0, 0)) (by (with_reducible repeat (first | refine kN ?_ _ | refine kD ?_ | refine kA ?_ _)); exact BK441.out) hb); have n6_ := Aside0.mk (blk_below (g := gb457) (o := .cells #[v454, .int .i64 t456] 60 (0, 0)) (by (with_reducible repeat (first | refine kN ?_ _ | refine kD ?_ | refine kA ?_ _)); exact BK457.out) hb); have n7_ := Aside0.mk (hnb462); have n8_ := Aside0.mk ((Nat.le_trans (below_size (by repeat (first | (with_reducible first | exact HB.out | apply kL | apply kM | apply kE | refine kS ?_ GE428.out | refine kS ?_ GE441.out | refine kS ?_ GE457.out) | exact HB.out))) hnl462 : w.heap.size ≤ gb462)); have n9_ := Aside0.mk ((Nat.le_trans (below_size (by repeat (first | (with_reducible first | exact HB.out | apply kL | apply kM | apply kE | refine kS ?_ GE428.out | refine kS ?_ GE441.out | refine kS ?_ GE457.out) | exact HB.out))) hnl462 : w.heap.size ≤ gb462)); have n10_ := Aside0.mk ((Nat.ne_of_lt (Nat.lt_of_lt_of_le (blk_lt (g := gb428) (o := .cells #[.int .u8 t431, .int .i64 t432, .int .i64 t433, .int .i64 t434, .int .i64 t435, .int .u8 x429005_13] 25 (0, 0)) (by (with_reducible repeat (first | refine kN ?_ _ | refine kD ?_ | refine kA ?_ _)); exact BK428.out)) hnl462) : gb428 ≠ gb462)); have n11_ := Aside0.mk ((Nat.ne_of_gt (Nat.lt_of_lt_of_le (blk_lt (g := gb428) (o := .cells #[.int .u8 t431, .int .i64 t432, .int .i64 t433, .int .i64 t434, .int .i64 t435, .int .u8 x429005_13] 25 (0, 0)) (by (with_reducible repeat (first | refine kN ?_ _ | refine kD ?_ | refine kA ?_ _)); exact BK428.out)) hnl462) : gb462 ≠ gb428)); have n12_ := Aside0.mk ((Nat.ne_of_lt (Nat.lt_of_lt_of_le (blk_lt (g := gb441) (o := .cells #[v450, .int .i64 t452] 60 (0, 0)) (by (with_reducible repeat (first | refine kN ?_ _ | refine kD ?_ | refine kA ?_ _)); exact BK441.out)) hnl462) : gb441 ≠ gb462)); have n13_ := Aside0.mk ((Nat.ne_of_gt (Nat.lt_of_lt_of_le (blk_lt (g := gb441) (o := .cells #[v450, .int .i64 t452] 60 (0, 0)) (by (with_reducible repeat (first | refine kN ?_ _ | refine kD ?_ | refine kA ?_ _)); exact BK441.out)) hnl462) : gb462 ≠ gb441)); have n14_ := Aside0.mk ((Nat.ne_of_lt (Nat.lt_of_lt_of_le (blk_lt (g := gb457) (o := .cells #[v454, .int .i64 t456] 60 (0, 0)) (by (with_reducible repeat (first | refine kN ?_ _ | refine kD ?_ | refine kA ?_ _)); exact BK457.out)) hnl462) : gb457 ≠ gb462)); have n15_ := Aside0.mk ((Nat.ne_of_gt (Nat.lt_of_lt_of_le (blk_lt (g := gb457) (o := .cells #[v454, .int .i64 t456] 60 (0, 0)) (by (with_reducible repeat (first | refine kN ?_ _ | refine kD ?_ | refine kA ?_ _)); exact BK457.out)) hnl462) : gb462 ≠ gb457)); have n16_ := Aside0.mk (below_step (by repeat (first | (with_reducible first | exact HB.out | apply kL | apply kM | apply kE | refine kS ?_ GE428.out | refine kS ?_ GE441.out | refine kS ?_ GE457.out) | exact HB.out)) hb); clear HO448; clear HO451; clear HO455; clear BK428; clear BK441; clear BK457; clear HB; have HO448 := n0_; have HO451 := n1_; have HO455 := n2_; have HO460 := n3_; have BK428 := n4_; have BK441 := n5_; have BK457 := n6_; have BK462 := n7_; have GW462 := n8_; have GE462 := n9_; have NB428_462 := n10_; have NB462_428 := n11_; have NB441_462 := n12_; have NB462_441 := n13_; have NB457_462 := n14_; have NB462_457 := n15_; have HB := n16_; clear n0_ n1_ n2_ n3_ n4_ n5_ n6_ n7_ n8_ n9_ n10_ n11_ n12_ n13_ n14_ n15_ n16_; (try clear hb); (try clear hb2); (try clear hk); (try clear hi); (try clear ho0)) | ((with_reducible refine gate_callee (f := 21) rfl ?_); refine goesL_ (some 34) rfl rfl Try.func21 (by kernel_rfl) rfl #[.pointer (some ⟨gb462, 0, none⟩)] rfl (by (try simp only [List.map_toArray, List.map_cons, List.map_nil]); first | done | rfl | (simp only [List.length_drop, List.length_take]; rfl)) ?_; (with_reducible refine (order_Get.calls kj13 gb462 (fun k_ => some k_ = (v459 : Value).ownBlock) v459 t458 t461 t463 t464 t465 t466 t467 t468 t469 t472 w _ ?side1 ?side2 ?side3 ?side4 A25.out).mono ?_); (case side1 => repeat (first | (with_reducible first | exact HB.out | apply kL | apply kM | apply kE | refine kS ?_ GE428.out | refine kS ?_ GE441.out | refine kS ?_ GE457.out | refine kS ?_ GE462.out) | exact HB.out)); (case side2 => exact (by (with_reducible repeat (first | refine kN ?_ _ | refine kD ?_ | refine kA ?_ _)); exact BK462.out)); (case side3 => exact GE462.out); (case side4 => exact Kd.Q_tight rfl (Kd.Q_of_R HO460.out)); rintro e w65 ⟨v470, rfl, ho0, hi, hb, hkp⟩; refine ⟨_, rfl, ?_⟩; have n0_ := Aside0.mk (blk_kept (by (with_reducible repeat (first | refine kN ?_ _ | refine kD ?_ | refine kA ?_ _)); exact BK428.out) hkp (fun hs_ => Or.elim hs_ (fun hs_ => (fun e_ => (Kd.R_ne HO460.out BK428.out (by decide)) e_) hs_) (fun e_ => NB428_462.out e_))); have n1_ := Aside0.mk (blk_kept (by (with_reducible repeat (first | refine kN ?_ _ | refine kD ?_ | refine kA ?_ _)); exact BK441.out) hkp (fun hs_ => Or.elim hs_ (fun hs_ => (fun e_ => (Kd.R_ne HO460.out BK441.out (by decide)) e_) hs_) (fun e_ => NB441_462.out e_))); have n2_ := Aside0.mk (Kd.R_mono (ok' := fun k_ => some k_ ≠ (v450 : Value).ownBlock ∧ some k_ ≠ (v454 : Value).ownBlock ∧ some k_ ≠ (v470 : Value).ownBlock) (Kd.R_keptB ((Kd.R_types HO448.out BK462.out (by decide))) hkp (fun k_ hk_ hs_ => Or.elim hs_ (fun hs_ => (hk_.1.2) hs_) (fun e_ => (hk_.2) e_))) (fun k_ hk_ => ⟨hk_.1.1.1.1, hk_.1.1.1.2, fun e_ => Or.elim (ho0.1 k_ e_.symm) (fun hs_ => hk_.2.1 (.inl hs_)) (fun hn_ => Nat.not_le.2 hk_.2.2 hn_)⟩)); have n3_ := Aside0.mk (Kd.R_mono (ok' := fun k_ => some k_ ≠ (.slice Ao62 t446.length co62 : Value).ownBlock ∧ some k_ ≠ (v454 : Value).ownBlock ∧ some k_ ≠ (v470 : Value).ownBlock) (Kd.R_keptB ((Kd.R_types HO451.out BK462.out (by decide))) hkp (fun k_ hk_ hs_ => Or.elim hs_ (fun hs_ => (hk_.1.2) hs_) (fun e_ => (hk_.2) e_))) (fun k_ hk_ => ⟨hk_.1.1.1.1, hk_.1.1.1.2, fun e_ => Or.elim (ho0.1 k_ e_.symm) (fun hs_ => hk_.2.1 (.inl hs_)) (fun hn_ => Nat.not_le.2 hk_.2.2 hn_)⟩)); have n4_ := Aside0.mk (Kd.R_mono (ok' := fun k_ => some k_ ≠ (.slice Ao62 t446.length co62 : Value).ownBlock ∧ some k_ ≠ (v450 : Value).ownBlock ∧ some k_ ≠ (v470 : Value).ownBlock) (Kd.R_keptB ((Kd.R_types HO455.out BK462.out (by decide))) hkp (fun k_ hk_ hs_ => Or.elim hs_ (fun hs_ => (hk_.1.2) hs_) (fun e_ => (hk_.2) e_))) (fun k_ hk_ => ⟨hk_.1.1.1.1.2, hk_.1.1.1.2, fun e_ => Or.elim (ho0.1 k_ e_.symm) (fun hs_ => hk_.2.1 (.inl hs_)) (fun hn_ => Nat.not_le.2 hk_.2.2 hn_)⟩)); have n5_ := Aside0.mk (blk_kept (by (with_reducible repeat (first | refine kN ?_ _ | refine kD ?_ | refine kA ?_ _)); exact BK457.out) hkp (fun hs_ => Or.elim hs_ (fun hs_ => (fun e_ => (Kd.R_ne HO460.out BK457.out (by decide)) e_) hs_) (fun e_ => NB457_462.out e_))); have n6_ := Aside0.mk (hi); have n7_ := Aside0.mk (Kd.Q_mono (ok' := fun k_ => some k_ ≠ (.slice Ao62 t446.length co62 : Value).ownBlock ∧ some k_ ≠ (v450 : Value).ownBlock ∧ some k_ ≠ (v454 : Value).ownBlock) ho0 (fun k_ hk_ => ⟨Or.elim hk_ (fun hs_ => fun e_ => ((((Kd.R_types HO448.out BK462.out (by decide))).1 k_ e_.symm).1.2) hs_) (fun hn_ => (Kd.fresh' (Kd.R_lt (by (with_reducible repeat (first | apply Kd.R_alloc | apply Kd.R_drewN | apply Kd.R_drew)); exact HO448.out)) k_ hn_)), Or.elim hk_ (fun hs_ => fun e_ => ((((Kd.R_types HO451.out BK462.out (by decide))).1 k_ e_.symm).1.2) hs_) (fun hn_ => (Kd.fresh' (Kd.R_lt (by (with_reducible repeat (first | apply Kd.R_alloc | apply Kd.R_drewN | apply Kd.R_drew)); exact HO451.out)) k_ hn_)), Or.elim hk_ (fun hs_ => fun e_ => ((((Kd.R_types HO455.out BK462.out (by decide))).1 k_ e_.symm).1.2) hs_) (fun hn_ => (Kd.fresh' (Kd.R_lt (by (with_reducible repeat (first | apply Kd.R_alloc | apply Kd.R_drewN | apply Kd.R_drew)); exact HO455.out)) k_ hn_))⟩)); have n8_ := Aside0.mk (hb); clear BK428; clear BK441; clear HO448; clear HO451; clear HO455; clear BK457; clear BK462; clear HB; clear HO460; have BK428 := n0_; have BK441 := n1_; have HO448 := n2_; have HO451 := n3_; have HO455 := n4_; have BK457 := n5_; have BK462 := n6_; have HO471 := n7_; have HB := n8_; clear n0_ n1_ n2_ n3_ n4_ n5_ n6_ n7_ n8_; (try clear hb); (try clear hkp); (try clear hi); (try clear ho0)) | ((with_reducible refine gate_dst (N := 10) rfl ?_); (try (refine gate_guard (by rfl) ?_; dsimp only)); refine box_event ?hg (N := 10) ?hd (cs := #[.int .u8 0, .int .i64 0, .int .i64 0, .int .i64 0, .int .i64 0, .int .u8 0]) (t := 25) ?hr ?_; (case hd => rfl); (case hg => rfl); (case hr => first | (go_simp; done) | (go_simp; rfl)); intro gb473 hg w66 hbox hb; have n0_ := Aside0.mk (Kd.R_below (by (with_reducible repeat (first | apply Kd.R_alloc | apply Kd.R_drewN | apply Kd.R_drew)); exact HO448.out) hb); have n1_ := Aside0.mk (Kd.R_below (by (with_reducible repeat (first | apply Kd.R_alloc | apply Kd.R_drewN | apply Kd.R_drew)); exact HO451.out) hb); have n2_ := Aside0.mk (Kd.R_below (by (with_reducible repeat (first | apply Kd.R_alloc | apply Kd.R_drewN | apply Kd.R_drew)); exact HO455.out) hb); have n3_ := Aside0.mk (Kd.Q_below (by (with_reducible repeat (first | apply Kd.Q_alloc | apply Kd.Q_drewN | apply Kd.Q_drew)); exact HO471.out) hb); have n4_ := Aside0.mk (blk_below (g := gb428) (o := .cells #[.int .u8 t431, .int .i64 t432, .int .i64 t433, .int .i64 t434, .int .i64 t435, .int .u8 x429005_13] 25 (0, 0)) (by (with_reducible repeat (first | refine kN ?_ _ | refine kD ?_ | refine kA ?_ _)); exact BK428.out) hb); have n5_ := Aside0.mk (blk_below (g := gb441) (o := .cells #[v450, .int .i64 t452] 60 (0, 0)) (by (with_reducible repeat (first | refine kN ?_ _ | refine kD ?_ | refine kA ?_ _)); exact BK441.out) hb); have n6_ := Aside0.mk (blk_below (g := gb457) (o := .cells #[v454, .int .i64 t456] 60 (0, 0)) (by (with_reducible repeat (first | refine kN ?_ _ | refine kD ?_ | refine kA ?_ _)); exact BK457.out) hb); have n7_ := Aside0.mk (blk_below (g := gb462) (o := .cells #[v470, .int .i64 t472] 60 (0, 0)) (by (with_reducible repeat (first | refine kN ?_ _ | refine kD ?_ | refine kA ?_ _)); exact BK462.out) hb); have n8_ := Aside0.mk (below_step (by repeat (first | (with_reducible first | exact HB.out | apply kL | apply kM | apply kE | refine kS ?_ GE428.out | refine kS ?_ GE441.out | refine kS ?_ GE457.out | refine kS ?_ GE462.out) | exact HB.out)) hb); have n9_ := Aside0.mk (hbox); have n10_ := Aside0.mk ((by rw [hg]; exact (below_size (by repeat (first | (with_reducible first | exact HB.out | apply kL | apply kM | apply kE | refine kS ?_ GE428.out | refine kS ?_ GE441.out | refine kS ?_ GE457.out | refine kS ?_ GE462.out) | exact HB.out))) : w.heap.size ≤ gb473)); have n11_ := Aside0.mk ((by rw [hg]; exact (below_size (by repeat (first | (with_reducible first | exact HB.out | apply kL | apply kM | apply kE | refine kS ?_ GE428.out | refine kS ?_ GE441.out | refine kS ?_ GE457.out | refine kS ?_ GE462.out) | exact HB.out))) : w.heap.size ≤ gb473)); have n12_ := Aside0.mk ((by rw [hg]; exact Nat.ne_of_lt (blk_lt (g := gb428) (o := .cells #[.int .u8 t431, .int .i64 t432, .int .i64 t433, .int .i64 t434, .int .i64 t435, .int .u8 x429005_13] 25 (0, 0)) (by (with_reducible repeat (first | refine kN ?_ _ | refine kD ?_ | refine kA ?_ _)); exact BK428.out)) : gb428 ≠ gb473)); have n13_ := Aside0.mk ((by rw [hg]; exact Nat.ne_of_gt (blk_lt (g := gb428) (o := .cells #[.int .u8 t431, .int .i64 t432, .int .i64 t433, .int .i64 t434, .int .i64 t435, .int .u8 x429005_13] 25 (0, 0)) (by (with_reducible repeat (first | refine kN ?_ _ | refine kD ?_ | refine kA ?_ _)); exact BK428.out)) : gb473 ≠ gb428)); have n14_ := Aside0.mk ((by rw [hg]; exact Nat.ne_of_lt (blk_lt (g := gb441) (o := .cells #[v450, .int .i64 t452] 60 (0, 0)) (by (with_reducible repeat (first | refine kN ?_ _ | refine kD ?_ | refine kA ?_ _)); exact BK441.out)) : gb441 ≠ gb473)); have n15_ := Aside0.mk ((by rw [hg]; exact Nat.ne_of_gt (blk_lt (g := gb441) (o := .cells #[v450, .int .i64 t452] 60 (0, 0)) (by (with_reducible repeat (first | refine kN ?_ _ | refine kD ?_ | refine kA ?_ _)); exact BK441.out)) : gb473 ≠ gb441)); have n16_ := Aside0.mk ((by rw [hg]; exact Nat.ne_of_lt (blk_lt (g := gb457) (o := .cells #[v454, .int .i64 t456] 60 (0, 0)) (by (with_reducible repeat (first | refine kN ?_ _ | refine kD ?_ | refine kA ?_ _)); exact BK457.out)) : gb457 ≠ gb473)); have n17_ := Aside0.mk ((by rw [hg]; exact Nat.ne_of_gt (blk_lt (g := gb457) (o := .cells #[v454, .int .i64 t456] 60 (0, 0)) (by (with_reducible repeat (first | refine kN ?_ _ | refine kD ?_ | refine kA ?_ _)); exact BK457.out)) : gb473 ≠ gb457)); have n18_ := Aside0.mk ((by rw [hg]; exact Nat.ne_of_lt (blk_lt (g := gb462) (o := .cells #[v470, .int .i64 t472] 60 (0, 0)) (by (with_reducible repeat (first | refine kN ?_ _ | refine kD ?_ | refine kA ?_ _)); exact BK462.out)) : gb462 ≠ gb473)); have n19_ := Aside0.mk ((by rw [hg]; exact Nat.ne_of_gt (blk_lt (g := gb462) (o := .cells #[v470, .int .i64 t472] 60 (0, 0)) (by (with_reducible repeat (first | refine kN ?_ _ | refine kD ?_ | refine kA ?_ _)); exact BK462.out)) : gb473 ≠ gb462)); clear HO448; clear HO451; clear HO455; clear HO471; clear BK428; clear BK441; clear BK457; clear BK462; clear HB; have HO448 := n0_; have HO451 := n1_; have HO455 := n2_; have HO471 := n3_; have BK428 := n4_; have BK441 := n5_; have BK457 := n6_; have BK462 := n7_; have HB := n8_; have BK473 := n9_; have GW473 := n10_; have GE473 := n11_; have NB428_473 := n12_; have NB473_428 := n13_; have NB441_473 := n14_; have NB473_441 := n15_; have NB457_473 := n16_; have NB473_457 := n17_; have NB462_473 := n18_; have NB473_462 := n19_; clear n0_ n1_ n2_ n3_ n4_ n5_ n6_ n7_ n8_ n9_ n10_ n11_ n12_ n13_ n14_ n15_ n16_ n17_ n18_ n19_; clear hb hbox hg; have hnb67 := NB473_428.out; have hnc67 := NB428_473.out; have hnb68 := NB473_441.out; have hnc68 := NB441_473.out; have hnb69 := NB473_457.out; have hnc69 := NB457_473.out; have hnb70 := NB473_462.out; have hnc70 := NB462_473.out; obtain ⟨hcz71_0, hcz71_1, hcz71_2, hcz71_3, hcz71_4, hcz71_5, hfz71_0, hfz71_1, hfz71_2, hfz71_3, hfz71_4, hfz71_5⟩ := bxc6 BK473.out) | ((with_reducible refine gate_store (t := 25) (p := 10) rfl ?_); refine store_event (t := 25) (p := 10) (v := ?vo_w72) (w1 := ((((((w66.setCell ⟨gb473, 0, none⟩ (.int .u8 t463)).setCell ⟨gb473, 1, none⟩ (.int .i64 t464)).setCell ⟨gb473, 2, none⟩ (.int .i64 t465)).setCell ⟨gb473, 3, none⟩ (.int .i64 t466)).setCell ⟨gb473, 4, none⟩ (.int .i64 t467)).setCell ⟨gb473, 5, none⟩ (.int .u8 t468))) ?hg ?ho ?hn ?hr ?_; (case ho => rfl); (case hg => rfl); (case hn => rfl); (case hr => first | exact Eq.trans (store_run (cells := #[.int .u8 t463, .int .i64 t464, .int .i64 t465, .int .i64 t466, .int .i64 t467, .int .u8 t468]) #[.int .u8 0, .int .i64 0, .int .i64 0, .int .i64 0, .int .i64 0, .int .u8 0] (by rfl) (by rfl) (by rfl) (BK473.out) (Nat.le_refl 6) (by kernel_rfl) (by kernel_rfl)) (by rfl) | (go_simp; done) | (go_simp; rfl)); intro w72 hw; have n0_ : Aside0 (Kd.R (Kd.int .u8) 5 w72 w.heap.size (fun k_ => some k_ ≠ (v450 : Value).ownBlock ∧ some k_ ≠ (v454 : Value).ownBlock ∧ some k_ ≠ (v470 : Value).ownBlock) (.slice Ao62 t446.length co62) t446) := ⟨(by rw [hw]; exact (by (with_reducible repeat (first | apply Kd.R_alloc | apply Kd.R_drewN | apply Kd.R_drew)); exact Kd.R_mono (Kd.R_far (p := ⟨gb473, 5, none⟩) (Kd.R_far (p := ⟨gb473, 4, none⟩) (Kd.R_far (p := ⟨gb473, 3, none⟩) (Kd.R_far (p := ⟨gb473, 2, none⟩) (Kd.R_far (p := ⟨gb473, 1, none⟩) (Kd.R_far (p := ⟨gb473, 0, none⟩) (Kd.R_types HO448.out BK473.out (by decide)) (fun _ hk => hk.2) (.int .u8 t463)) (fun _ hk => hk.2) (.int .i64 t464)) (fun _ hk => hk.2) (.int .i64 t465)) (fun _ hk => hk.2) (.int .i64 t466)) (fun _ hk => hk.2) (.int .i64 t467)) (fun _ hk => hk.2) (.int .u8 t468)) (fun _ hk => ⟨hk.1.1, ⟨hk.1.2.1, hk.1.2.2⟩⟩)))⟩; have n1_ : Aside0 (Kd.R (Kd.int .u8) 5 w72 w.heap.size (fun k_ => some k_ ≠ (.slice Ao62 t446.length co62 : Value).ownBlock ∧ some k_ ≠ (v454 : Value).ownBlock ∧ some k_ ≠ (v470 : Value).ownBlock) v450 t449) := ⟨(by rw [hw]; exact (by (with_reducible repeat (first | apply Kd.R_alloc | apply Kd.R_drewN | apply Kd.R_drew)); exact Kd.R_mono (Kd.R_far (p := ⟨gb473, 5, none⟩) (Kd.R_far (p := ⟨gb473, 4, none⟩) (Kd.R_far (p := ⟨gb473, 3, none⟩) (Kd.R_far (p := ⟨gb473, 2, none⟩) (Kd.R_far (p := ⟨gb473, 1, none⟩) (Kd.R_far (p := ⟨gb473, 0, none⟩) (Kd.R_types HO451.out BK473.out (by decide)) (fun _ hk => hk.2) (.int .u8 t463)) (fun _ hk => hk.2) (.int .i64 t464)) (fun _ hk => hk.2) (.int .i64 t465)) (fun _ hk => hk.2) (.int .i64 t466)) (fun _ hk => hk.2) (.int .i64 t467)) (fun _ hk => hk.2) (.int .u8 t468)) (fun _ hk => ⟨hk.1.1, ⟨hk.1.2.1, hk.1.2.2⟩⟩)))⟩; have n2_ : Aside0 (Kd.R (Kd.int .u8) 5 w72 w.heap.size (fun k_ => some k_ ≠ (.slice Ao62 t446.length co62 : Value).ownBlock ∧ some k_ ≠ (v450 : Value).ownBlock ∧ some k_ ≠ (v470 : Value).ownBlock) v454 t453) := ⟨(by rw [hw]; exact (by (with_reducible repeat (first | apply Kd.R_alloc | apply Kd.R_drewN | apply Kd.R_drew)); exact Kd.R_mono (Kd.R_far (p := ⟨gb473, 5, none⟩) (Kd.R_far (p := ⟨gb473, 4, none⟩) (Kd.R_far (p := ⟨gb473, 3, none⟩) (Kd.R_far (p := ⟨gb473, 2, none⟩) (Kd.R_far (p := ⟨gb473, 1, none⟩) (Kd.R_far (p := ⟨gb473, 0, none⟩) (Kd.R_types HO455.out BK473.out (by decide)) (fun _ hk => hk.2) (.int .u8 t463)) (fun _ hk => hk.2) (.int .i64 t464)) (fun _ hk => hk.2) (.int .i64 t465)) (fun _ hk => hk.2) (.int .i64 t466)) (fun _ hk => hk.2) (.int .i64 t467)) (fun _ hk => hk.2) (.int .u8 t468)) (fun _ hk => ⟨hk.1.1, ⟨hk.1.2.1, hk.1.2.2⟩⟩)))⟩; have n3_ : Aside0 (Kd.Q (Kd.int .u8) 5 w72 w.heap.size (fun k_ => some k_ ≠ (.slice Ao62 t446.length co62 : Value).ownBlock ∧ some k_ ≠ (v450 : Value).ownBlock ∧ some k_ ≠ (v454 : Value).ownBlock) v470 t469) := ⟨(by rw [hw]; exact (by (with_reducible repeat (first | apply Kd.Q_alloc | apply Kd.Q_drewN | apply Kd.Q_drew)); exact Kd.Q_mono (Kd.Q_far (p := ⟨gb473, 5, none⟩) (Kd.Q_far (p := ⟨gb473, 4, none⟩) (Kd.Q_far (p := ⟨gb473, 3, none⟩) (Kd.Q_far (p := ⟨gb473, 2, none⟩) (Kd.Q_far (p := ⟨gb473, 1, none⟩) (Kd.Q_far (p := ⟨gb473, 0, none⟩) (Kd.Q_types HO471.out BK473.out (by decide)) (fun _ hk => hk.2) (.int .u8 t463)) (fun _ hk => hk.2) (.int .i64 t464)) (fun _ hk => hk.2) (.int .i64 t465)) (fun _ hk => hk.2) (.int .i64 t466)) (fun _ hk => hk.2) (.int .i64 t467)) (fun _ hk => hk.2) (.int .u8 t468)) (fun _ hk => ⟨hk.1.1, ⟨hk.1.2.1, hk.1.2.2⟩⟩)))⟩; have n4_ : Aside0 (w72.heap[gb428]? = some (.cells #[.int .u8 t431, .int .i64 t432, .int .i64 t433, .int .i64 t434, .int .i64 t435, .int .u8 x429005_13] 25 (0, 0))) := ⟨(by rw [hw]; exact (by (with_reducible repeat (first | refine kN ?_ _ | refine kD ?_ | refine kA ?_ _ | refine kR ?_ NB428_473.out _)); (with_reducible repeat (first | refine kN ?_ _ | refine kD ?_ | refine kA ?_ _)); exact BK428.out))⟩; have n5_ : Aside0 (w72.heap[gb441]? = some (.cells #[v450, .int .i64 t452] 60 (0, 0))) := ⟨(by rw [hw]; exact (by (with_reducible repeat (first | refine kN ?_ _ | refine kD ?_ | refine kA ?_ _)); refine kR ?_ NB441_473.out _; (with_reducible repeat (first | refine kN ?_ _ | refine kD ?_ | refine kA ?_ _)); refine kR ?_ NB441_473.out _; (with_reducible repeat (first | refine kN ?_ _ | refine kD ?_ | refine kA ?_ _)); refine kR ?_ NB441_473.out _; (with_reducible repeat (first | refine kN ?_ _ | refine kD ?_ | refine kA ?_ _)); refine kR ?_ NB441_473.out _; (with_reducible repeat (first | refine kN ?_ _ | refine kD ?_ | refine kA ?_ _)); refine kR ?_ NB441_473.out _; (with_reducible repeat (first | refine kN ?_ _ | refine kD ?_ | refine kA ?_ _)); refine kR ?_ NB441_473.out _; (with_reducible repeat (first | refine kN ?_ _ | refine kD ?_ | refine kA ?_ _)); exact BK441.out))⟩; have n6_ : Aside0 (w72.heap[gb457]? = some (.cells #[v454, .int .i64 t456] 60 (0, 0))) := ⟨(by rw [hw]; exact (by (with_reducible repeat (first | refine kN ?_ _ | refine kD ?_ | refine kA ?_ _)); refine kR ?_ NB457_473.out _; (with_reducible repeat (first | refine kN ?_ _ | refine kD ?_ | refine kA ?_ _)); refine kR ?_ NB457_473.out _; (with_reducible repeat (first | refine kN ?_ _ | refine kD ?_ | refine kA ?_ _)); refine kR ?_ NB457_473.out _; (with_reducible repeat (first | refine kN ?_ _ | refine kD ?_ | refine kA ?_ _)); refine kR ?_ NB457_473.out _; (with_reducible repeat (first | refine kN ?_ _ | refine kD ?_ | refine kA ?_ _)); refine kR ?_ NB457_473.out _; (with_reducible repeat (first | refine kN ?_ _ | refine kD ?_ | refine kA ?_ _)); refine kR ?_ NB457_473.out _; (with_reducible repeat (first | refine kN ?_ _ | refine kD ?_ | refine kA ?_ _)); exact BK457.out))⟩; have n7_ : Aside0 (w72.heap[gb462]? = some (.cells #[v470, .int .i64 t472] 60 (0, 0))) := ⟨(by rw [hw]; exact (by (with_reducible repeat (first | refine kN ?_ _ | refine kD ?_ | refine kA ?_ _)); refine kR ?_ NB462_473.out _; (with_reducible repeat (first | refine kN ?_ _ | refine kD ?_ | refine kA ?_ _)); refine kR ?_ NB462_473.out _; (with_reducible repeat (first | refine kN ?_ _ | refine kD ?_ | refine kA ?_ _)); refine kR ?_ NB462_473.out _; (with_reducible repeat (first | refine kN ?_ _ | refine kD ?_ | refine kA ?_ _)); refine kR ?_ NB462_473.out _; (with_reducible repeat (first | refine kN ?_ _ | refine kD ?_ | refine kA ?_ _)); refine kR ?_ NB462_473.out _; (with_reducible repeat (first | refine kN ?_ _ | refine kD ?_ | refine kA ?_ _)); refine kR ?_ NB462_473.out _; (with_reducible repeat (first | refine kN ?_ _ | refine kD ?_ | refine kA ?_ _)); exact BK462.out))⟩; have n8_ : Aside0 (w72.heap[gb473]? = some (.cells #[.int .u8 t463, .int .i64 t464, .int .i64 t465, .int .i64 t466, .int .i64 t467, .int .u8 t468] 25 (0, 0))) := ⟨(by rw [hw]; exact (by (with_reducible repeat (first | refine kN ?_ _ | refine kD ?_ | refine kA ?_ _)); refine bxw6 (.int .u8 0) (.int .i64 0) (.int .i64 0) (.int .i64 0) (.int .i64 0) (.int .u8 0) ?_; (with_reducible repeat (first | refine kN ?_ _ | refine kD ?_ | refine kA ?_ _)); exact BK473.out))⟩; have n9_ : Aside0 (Below w.heap.size w w72) := ⟨(by rw [hw]; exact (by repeat (first | (with_reducible first | exact HB.out | apply kL | apply kM | apply kE | refine kS ?_ GE428.out | refine kS ?_ GE441.out | refine kS ?_ GE457.out | refine kS ?_ GE462.out | refine kS ?_ GE473.out) | exact HB.out)))⟩; clear hw; clear HO448; clear HO451; clear HO455; clear HO471; clear BK428; clear BK441; clear BK457; clear BK462; clear BK473; clear HB; have HO448 := n0_; have HO451 := n1_; have HO455 := n2_; have HO471 := n3_; have BK428 := n4_; have BK441 := n5_; have BK457 := n6_; have BK462 := n7_; have BK473 := n8_; have HB := n9_; clear n0_ n1_ n2_ n3_ n4_ n5_ n6_ n7_ n8_ n9_) | ((with_reducible refine gate_callee (f := 22) rfl ?_); refine goesL_ (some 36) rfl rfl Try.func22 (by kernel_rfl) rfl #[.pointer (some ⟨gb462, 0, none⟩)] rfl (by (try simp only [List.map_toArray, List.map_cons, List.map_nil]); first | done | rfl | (simp only [List.length_drop, List.length_take]; rfl)) ?_; (with_reducible refine (pack_Box_Fault.calls gb462 (fun k_ => some k_ = (v470 : Value).ownBlock) v470 t469 t472 t474 t475 t478 w _ ?side1 ?side2 ?side3 ?side4 A26.out).mono ?_); (case side1 => repeat (first | (with_reducible first | exact HB.out | apply kL | apply kM | apply kE | refine kS ?_ GE428.out | refine kS ?_ GE441.out | refine kS ?_ GE457.out | refine kS ?_ GE462.out | refine kS ?_ GE473.out) | exact HB.out)); (case side2 => exact (by (with_reducible repeat (first | refine kN ?_ _ | refine kD ?_ | refine kA ?_ _)); exact BK462.out)); (case side3 => exact GE462.out); (case side4 => exact Kd.Q_tight rfl HO471.out); rintro e w73 ⟨v476, rfl, ho0, hi, hb, hkp⟩; refine ⟨_, rfl, ?_⟩; have n0_ := Aside0.mk (blk_kept (by (with_reducible repeat (first | refine kN ?_ _ | refine kD ?_ | refine kA ?_ _)); exact BK428.out) hkp (fun hs_ => Or.elim hs_ (fun hs_ => (fun e_ => (Kd.Q_ne HO471.out BK428.out (by decide)) e_) hs_) (fun e_ => NB428_462.out e_))); have n1_ := Aside0.mk (blk_kept (by (with_reducible repeat (first | refine kN ?_ _ | refine kD ?_ | refine kA ?_ _)); exact BK441.out) hkp (fun hs_ => Or.elim hs_ (fun hs_ => (fun e_ => (Kd.Q_ne HO471.out BK441.out (by decide)) e_) hs_) (fun e_ => NB441_462.out e_))); have n2_ := Aside0.mk (Kd.R_mono (ok' := fun k_ => some k_ ≠ (v450 : Value).ownBlock ∧ some k_ ≠ (v454 : Value).ownBlock ∧ some k_ ≠ (v476 : Value).ownBlock) (Kd.R_keptB ((Kd.R_types HO448.out BK462.out (by decide))) hkp (fun k_ hk_ hs_ => Or.elim hs_ (fun hs_ => (hk_.1.2.2) hs_) (fun e_ => (hk_.2) e_))) (fun k_ hk_ => ⟨hk_.1.1.1, hk_.1.1.2.1, fun e_ => Or.elim (ho0.1 k_ e_.symm) (fun hs_ => hk_.2.1 (.inl hs_)) (fun hn_ => Nat.not_le.2 hk_.2.2 hn_)⟩)); have n3_ := Aside0.mk (Kd.R_mono (ok' := fun k_ => some k_ ≠ (.slice Ao62 t446.length co62 : Value).ownBlock ∧ some k_ ≠ (v454 : Value).ownBlock ∧ some k_ ≠ (v476 : Value).ownBlock) (Kd.R_keptB ((Kd.R_types HO451.out BK462.out (by decide))) hkp (fun k_ hk_ hs_ => Or.elim hs_ (fun hs_ => (hk_.1.2.2) hs_) (fun e_ => (hk_.2) e_))) (fun k_ hk_ => ⟨hk_.1.1.1, hk_.1.1.2.1, fun e_ => Or.elim (ho0.1 k_ e_.symm) (fun hs_ => hk_.2.1 (.inl hs_)) (fun hn_ => Nat.not_le.2 hk_.2.2 hn_)⟩)); have n4_ := Aside0.mk (Kd.R_mono (ok' := fun k_ => some k_ ≠ (.slice Ao62 t446.length co62 : Value).ownBlock ∧ some k_ ≠ (v450 : Value).ownBlock ∧ some k_ ≠ (v476 : Value).ownBlock) (Kd.R_keptB ((Kd.R_types HO455.out BK462.out (by decide))) hkp (fun k_ hk_ hs_ => Or.elim hs_ (fun hs_ => (hk_.1.2.2) hs_) (fun e_ => (hk_.2) e_))) (fun k_ hk_ => ⟨hk_.1.1.1, hk_.1.1.2.1, fun e_ => Or.elim (ho0.1 k_ e_.symm) (fun hs_ => hk_.2.1 (.inl hs_)) (fun hn_ => Nat.not_le.2 hk_.2.2 hn_)⟩)); have n5_ := Aside0.mk (blk_kept (by (with_reducible repeat (first | refine kN ?_ _ | refine kD ?_ | refine kA ?_ _)); exact BK457.out) hkp (fun hs_ => Or.elim hs_ (fun hs_ => (fun e_ => (Kd.Q_ne HO471.out BK457.out (by decide)) e_) hs_) (fun e_ => NB457_462.out e_))); have n6_ := Aside0.mk (hi); have n7_ := Aside0.mk (blk_kept (by (with_reducible repeat (first | refine kN ?_ _ | refine kD ?_ | refine kA ?_ _)); exact BK473.out) hkp (fun hs_ => Or.elim hs_ (fun hs_ => (fun e_ => (Kd.Q_ne HO471.out BK473.out (by decide)) e_) hs_) (fun e_ => NB473_462.out e_))); have n8_ := Aside0.mk (Kd.Q_mono (ok' := fun k_ => some k_ ≠ (.slice Ao62 t446.length co62 : Value).ownBlock ∧ some k_ ≠ (v450 : Value).ownBlock ∧ some k_ ≠ (v454 : Value).ownBlock) ho0 (fun k_ hk_ => ⟨Or.elim hk_ (fun hs_ => fun e_ => ((((Kd.R_types HO448.out BK462.out (by decide))).1 k_ e_.symm).1.2.2) hs_) (fun hn_ => (Kd.fresh' (Kd.R_lt (by (with_reducible repeat (first | apply Kd.R_alloc | apply Kd.R_drewN | apply Kd.R_drew)); exact HO448.out)) k_ hn_)), Or.elim hk_ (fun hs_ => fun e_ => ((((Kd.R_types HO451.out BK462.out (by decide))).1 k_ e_.symm).1.2.2) hs_) (fun hn_ => (Kd.fresh' (Kd.R_lt (by (with_reducible repeat (first | apply Kd.R_alloc | apply Kd.R_drewN | apply Kd.R_drew)); exact HO451.out)) k_ hn_)), Or.elim hk_ (fun hs_ => fun e_ => ((((Kd.R_types HO455.out BK462.out (by decide))).1 k_ e_.symm).1.2.2) hs_) (fun hn_ => (Kd.fresh' (Kd.R_lt (by (with_reducible repeat (first | apply Kd.R_alloc | apply Kd.R_drewN | apply Kd.R_drew)); exact HO455.out)) k_ hn_))⟩)); have n9_ := Aside0.mk (hb); clear BK428; clear BK441; clear HO448; clear HO451; clear HO455; clear BK457; clear BK462; clear BK473; clear HB; clear HO471; have BK428 := n0_; have BK441 := n1_; have HO448 := n2_; have HO451 := n3_; have HO455 := n4_; have BK457 := n5_; have BK462 := n6_; have BK473 := n7_; have HO477 := n8_; have HB := n9_; clear n0_ n1_ n2_ n3_ n4_ n5_ n6_ n7_ n8_ n9_; (try clear hb); (try clear hkp); (try clear hi); (try clear ho0)))
         have n0_ := Aside0.mk (Kd.R_drew HO448.out)
         have n1_ := Aside0.mk (Kd.R_drew HO451.out)
         have n2_ := Aside0.mk (Kd.R_drew HO455.out)
         have n3_ := Aside0.mk (Kd.Q_drew HO477.out)
         have n4_ := Aside0.mk (kD BK428.out)
         have n5_ := Aside0.mk (kD BK441.out)
         have n6_ := Aside0.mk (kD BK457.out)
         have n7_ := Aside0.mk (kD BK462.out)
         have n8_ := Aside0.mk (kD BK473.out)
         have n9_ := Aside0.mk (kE HB.out)
         clear HO448
         clear HO451
         clear HO455
         clear HO477
         clear BK428
         clear BK441
         clear BK457
         clear BK462
         clear BK473
         clear HB
         have HO448 := n0_
         have HO451 := n1_
         have HO455 := n2_
         have HO477 := n3_
         have BK428 := n4_
         have BK441 := n5_
         have BK457 := n6_
         have BK462 := n7_
         have BK473 := n8_
         have HB := n9_
         clear n0_ n1_ n2_ n3_ n4_ n5_ n6_ n7_ n8_ n9_
         refine start_ (n := 32) (S := fun w' => w'.cell? ⟨gb428, 0, none⟩ = some (.int .u8 t431) ∧ w'.cell? ⟨gb428, 1, none⟩ = some (.int .i64 t432) ∧ w'.cell? ⟨gb428, 2, none⟩ = some (.int .i64 t433) ∧ w'.cell? ⟨gb428, 3, none⟩ = some (.int .i64 t434) ∧ w'.cell? ⟨gb428, 4, none⟩ = some (.int .i64 t435) ∧ w'.cell? ⟨gb428, 5, none⟩ = some (.int .u8 x429005_13)) (ds := []) #[F,F,F,F,F,F,F,F,F,F,F,F,F,F,F,F,F,F,F,F,F,F,F,F,F,F,F,F,F,F,F,F] (by kernel_rfl) rfl rfl ⟨(kC BK428.out 0).trans rfl, (kC BK428.out 1).trans rfl, (kC BK428.out 2).trans rfl, (kC BK428.out 3).trans rfl, (kC BK428.out 4).trans rfl, (kC BK428.out 5).trans rfl⟩ (fun hHeld => ?_); refine with_tabW paybooklaw10_OrderNotices.tab12 paybooklaw10_OrderNotices.bits12 (fun HT_ HW_ => ?_)
         generalize w73.drew = w74 at HO448 HO451 HO455 HO477 BK428 BK441 BK457 BK462 BK473 HB hHeld ⊢
         refine pure_ (i := 0) (N := some 38) (v := ?_) (a' := ?_) #[T,F,F,F,F,F,F,F,F,F,F,F,F,F,F,F,F,F,F,F,F,F,F,F,F,F,F,F,F,F,F,F] rfl rfl (any_of HT_.out (by kernel_rfl)) (fun _ _ _ h => h) (Or.inl ⟨by rfl, ?_⟩) ?_ ?_
         rotate_left
         ·intro w'
          go_simp
          with_reducible rfl
         rotate_left
         ·simp only [Act.put, List.setIfInBounds_toArray, List.set_cons_zero, List.set_cons_succ, i64_w, i32_w]
          rfl
         refine take_ (i := 2) (N := some 40) (v := ?_) (a' := ?_) #[T,F,T,F,F,F,F,F,F,F,F,F,F,F,F,F,F,F,F,F,F,F,F,F,F,F,F,F,F,F,F,F] rfl rfl (take_ofW HT_.out HW_.out (by kernel_rfl)) (fun _ _ _ h => h) (Or.inl ⟨by rfl, ?_⟩) hHeld ?_ ?_
         rotate_left
         ·rintro w' ⟨s0, s1, s2, s3, s4, s5⟩
          go_simp
          with_reducible rfl
         rotate_left
         ·simp only [Act.put, List.setIfInBounds_toArray, List.set_cons_zero, List.set_cons_succ, i64_w, i32_w]
          rfl
         refine one_ (i := 1) (N := some 39) #[T,T,T,F,F,F,F,F,F,F,F,F,F,F,F,F,F,F,F,F,F,F,F,F,F,F,F,F,F,F,F,F] rfl rfl (one_of HT_.out (by kernel_rfl)) (by decide) (fun K hK => ?_)
         refine goes_ Try.func21 (by kernel_rfl) rfl #[.pointer (some ⟨gb457, 0, none⟩)] (by rfl) rfl rfl (by (try simp only [List.map_toArray, List.map_cons, List.map_nil]); first | done | rfl | (simp only [List.length_drop, List.length_take]; rfl)) ?_
         with_reducible refine (order_Get.calls kj13 gb457 (fun k_ => some k_ = (v454 : Value).ownBlock) v454 t453 t456 t479 t480 t481 t482 t483 t484 t485 t488 w _ ?side1 ?side2 ?side3 ?side4 A27.out).mono ?_
         (case side1 => repeat (first | (with_reducible first | exact HB.out | apply kL | apply kM | apply kE | refine kS ?_ GE428.out | refine kS ?_ GE441.out | refine kS ?_ GE457.out | refine kS ?_ GE462.out | refine kS ?_ GE473.out) | exact HB.out))
         (case side2 => exact (by (with_reducible repeat (first | refine kN ?_ _ | refine kD ?_ | refine kA ?_ _)); exact BK457.out))
         (case side3 => exact GE457.out)
         (case side4 => exact Kd.Q_tight rfl (Kd.Q_of_R HO455.out))
         rintro e w75 ⟨v486, rfl, ho0, hi, hb, hkp⟩
         refine ⟨_, rfl, ?_⟩
         have n0_ := Aside0.mk (blk_kept (by (with_reducible repeat (first | refine kN ?_ _ | refine kD ?_ | refine kA ?_ _)); exact BK428.out) hkp (fun hs_ => Or.elim hs_ (fun hs_ => (fun e_ => (Kd.R_ne HO455.out BK428.out (by decide)) e_) hs_) (fun e_ => NB428_457.out e_)))
         have n1_ := Aside0.mk (blk_kept (by (with_reducible repeat (first | refine kN ?_ _ | refine kD ?_ | refine kA ?_ _)); exact BK441.out) hkp (fun hs_ => Or.elim hs_ (fun hs_ => (fun e_ => (Kd.R_ne HO455.out BK441.out (by decide)) e_) hs_) (fun e_ => NB441_457.out e_)))
         have n2_ := Aside0.mk (Kd.R_mono (ok' := fun k_ => some k_ ≠ (v450 : Value).ownBlock ∧ some k_ ≠ (v476 : Value).ownBlock ∧ some k_ ≠ (v486 : Value).ownBlock) (Kd.R_keptB ((Kd.R_types HO448.out BK457.out (by decide))) hkp (fun k_ hk_ hs_ => Or.elim hs_ (fun hs_ => (hk_.1.2.1) hs_) (fun e_ => (hk_.2) e_))) (fun k_ hk_ => ⟨hk_.1.1.1, hk_.1.1.2.2, fun e_ => Or.elim (ho0.1 k_ e_.symm) (fun hs_ => hk_.2.1 (.inl hs_)) (fun hn_ => Nat.not_le.2 hk_.2.2 hn_)⟩))
         have n3_ := Aside0.mk (Kd.R_mono (ok' := fun k_ => some k_ ≠ (.slice Ao62 t446.length co62 : Value).ownBlock ∧ some k_ ≠ (v476 : Value).ownBlock ∧ some k_ ≠ (v486 : Value).ownBlock) (Kd.R_keptB ((Kd.R_types HO451.out BK457.out (by decide))) hkp (fun k_ hk_ hs_ => Or.elim hs_ (fun hs_ => (hk_.1.2.1) hs_) (fun e_ => (hk_.2) e_))) (fun k_ hk_ => ⟨hk_.1.1.1, hk_.1.1.2.2, fun e_ => Or.elim (ho0.1 k_ e_.symm) (fun hs_ => hk_.2.1 (.inl hs_)) (fun hn_ => Nat.not_le.2 hk_.2.2 hn_)⟩))
         have n4_ := Aside0.mk (hi)
         have n5_ := Aside0.mk (blk_kept (by (with_reducible repeat (first | refine kN ?_ _ | refine kD ?_ | refine kA ?_ _)); exact BK462.out) hkp (fun hs_ => Or.elim hs_ (fun hs_ => (fun e_ => (Kd.R_ne HO455.out BK462.out (by decide)) e_) hs_) (fun e_ => NB462_457.out e_)))
         have n6_ := Aside0.mk (blk_kept (by (with_reducible repeat (first | refine kN ?_ _ | refine kD ?_ | refine kA ?_ _)); exact BK473.out) hkp (fun hs_ => Or.elim hs_ (fun hs_ => (fun e_ => (Kd.R_ne HO455.out BK473.out (by decide)) e_) hs_) (fun e_ => NB473_457.out e_)))
         have n7_ := Aside0.mk (Kd.Q_mono (ok' := fun k_ => some k_ ≠ (.slice Ao62 t446.length co62 : Value).ownBlock ∧ some k_ ≠ (v450 : Value).ownBlock ∧ some k_ ≠ (v486 : Value).ownBlock) (Kd.Q_keptB ((Kd.Q_types HO477.out BK457.out (by decide))) hkp (fun k_ hk_ hs_ => Or.elim hs_ (fun hs_ => (hk_.1.2.2) hs_) (fun e_ => (hk_.2) e_))) (fun k_ hk_ => ⟨hk_.1.1.1, hk_.1.1.2.1, fun e_ => Or.elim (ho0.1 k_ e_.symm) (fun hs_ => hk_.2.1 (.inl hs_)) (fun hn_ => Nat.not_le.2 hk_.2.2 hn_)⟩))
         have n8_ := Aside0.mk (Kd.Q_mono (ok' := fun k_ => some k_ ≠ (.slice Ao62 t446.length co62 : Value).ownBlock ∧ some k_ ≠ (v450 : Value).ownBlock ∧ some k_ ≠ (v476 : Value).ownBlock) ho0 (fun k_ hk_ => ⟨Or.elim hk_ (fun hs_ => fun e_ => ((((Kd.R_types HO448.out BK457.out (by decide))).1 k_ e_.symm).1.2.1) hs_) (fun hn_ => (Kd.fresh' (Kd.R_lt (by (with_reducible repeat (first | apply Kd.R_alloc | apply Kd.R_drewN | apply Kd.R_drew)); exact HO448.out)) k_ hn_)), Or.elim hk_ (fun hs_ => fun e_ => ((((Kd.R_types HO451.out BK457.out (by decide))).1 k_ e_.symm).1.2.1) hs_) (fun hn_ => (Kd.fresh' (Kd.R_lt (by (with_reducible repeat (first | apply Kd.R_alloc | apply Kd.R_drewN | apply Kd.R_drew)); exact HO451.out)) k_ hn_)), Or.elim hk_ (fun hs_ => fun e_ => ((((Kd.Q_types HO477.out BK457.out (by decide))).1 k_ e_.symm).1.2.2) hs_) (fun hn_ => (Kd.fresh' (Kd.Q_lt (by (with_reducible repeat (first | apply Kd.Q_alloc | apply Kd.Q_drewN | apply Kd.Q_drew)); exact HO477.out)) k_ hn_))⟩))
         have n9_ := Aside0.mk (hb)
         clear BK428
         clear BK441
         clear HO448
         clear HO451
         clear BK457
         clear BK462
         clear BK473
         clear HO477
         clear HB
         clear HO455
         have BK428 := n0_
         have BK441 := n1_
         have HO448 := n2_
         have HO451 := n3_
         have BK457 := n4_
         have BK462 := n5_
         have BK473 := n6_
         have HO477 := n7_
         have HO487 := n8_
         have HB := n9_
         clear n0_ n1_ n2_ n3_ n4_ n5_ n6_ n7_ n8_ n9_
         (try clear hb)
         (try clear hkp)
         (try clear hi)
         (try clear ho0)
         refine hK.out _ _ ⟨(kC BK428.out 0).trans rfl, (kC BK428.out 1).trans rfl, (kC BK428.out 2).trans rfl, (kC BK428.out 3).trans rfl, (kC BK428.out 4).trans rfl, (kC BK428.out 5).trans rfl⟩ (fun hHeld => ?_)
         clear hK K
         refine norm_ (a' := ?_) ?_ ?_
         rotate_left
         ·show Act.put _ (some 39) _ = _
          simp only [Act.put, List.setIfInBounds_toArray, List.set_cons_zero, List.set_cons_succ, i64_w, i32_w]
          rfl
         refine pure_ (i := 3) (N := some 41) (v := ?_) (a' := ?_) #[T,T,T,T,F,F,F,F,F,F,F,F,F,F,F,F,F,F,F,F,F,F,F,F,F,F,F,F,F,F,F,F] rfl rfl (any_of HT_.out (by kernel_rfl)) (fun _ _ _ h => h) (Or.inl ⟨by rfl, ?_⟩) ?_ ?_
         rotate_left
         ·intro w'
          go_simp
          with_reducible rfl
         rotate_left
         ·simp only [Act.put, List.setIfInBounds_toArray, List.set_cons_zero, List.set_cons_succ, i64_w, i32_w]
          rfl
         refine pure_ (i := 4) (N := some 42) (v := ?_) (a' := ?_) #[T,T,T,T,T,F,F,F,F,F,F,F,F,F,F,F,F,F,F,F,F,F,F,F,F,F,F,F,F,F,F,F] rfl rfl (any_of HT_.out (by kernel_rfl)) (fun _ _ _ h => h) (Or.inl ⟨by rfl, ?_⟩) ?_ ?_
         rotate_left
         ·intro w'
          go_simp
          with_reducible rfl
         rotate_left
         ·simp only [Act.put, List.setIfInBounds_toArray, List.set_cons_zero, List.set_cons_succ, i64_w, i32_w]
          rfl
         refine pure_ (i := 5) (N := some 43) (v := ?_) (a' := ?_) #[T,T,T,T,T,T,F,F,F,F,F,F,F,F,F,F,F,F,F,F,F,F,F,F,F,F,F,F,F,F,F,F] rfl rfl (any_of HT_.out (by kernel_rfl)) (fun _ _ _ h => h) (Or.inl ⟨by rfl, ?_⟩) ?_ ?_
         rotate_left
         ·intro w'
          go_simp
          with_reducible rfl
         rotate_left
         ·simp only [Act.put, List.setIfInBounds_toArray, List.set_cons_zero, List.set_cons_succ, i64_w, i32_w]
          rfl
         refine one_ (i := 6) (N := some 44) #[T,T,T,T,T,T,T,F,F,F,F,F,F,F,F,F,F,F,F,F,F,F,F,F,F,F,F,F,F,F,F,F] rfl rfl (one_of HT_.out (by kernel_rfl)) (by decide) (fun K hK => ?_)
         refine goes_ Try.func23 (by kernel_rfl) rfl #[.pointer (some ⟨gb457, 0, none⟩)] (by rfl) rfl rfl (by (try simp only [List.map_toArray, List.map_cons, List.map_nil]); first | done | rfl | (simp only [List.length_drop, List.length_take]; rfl)) ?_
         with_reducible refine (pack_Box_End.calls gb457 (fun k_ => some k_ = (v486 : Value).ownBlock) v486 t485 t488 t489 t490 t493 w _ ?side1 ?side2 ?side3 ?side4 A29.out).mono ?_
         (case side1 => repeat (first | (with_reducible first | exact HB.out | apply kL | apply kM | apply kE | refine kS ?_ GE428.out | refine kS ?_ GE441.out | refine kS ?_ GE457.out | refine kS ?_ GE462.out | refine kS ?_ GE473.out) | exact HB.out))
         (case side2 => exact (by (with_reducible repeat (first | refine kN ?_ _ | refine kD ?_ | refine kA ?_ _)); exact BK457.out))
         (case side3 => exact GE457.out)
         (case side4 => exact Kd.Q_tight rfl HO487.out)
         rintro e w76 ⟨v491, rfl, ho0, hi, hb, hkp⟩
         refine ⟨_, rfl, ?_⟩
         have n0_ := Aside0.mk (blk_kept (by (with_reducible repeat (first | refine kN ?_ _ | refine kD ?_ | refine kA ?_ _)); exact BK428.out) hkp (fun hs_ => Or.elim hs_ (fun hs_ => (fun e_ => (Kd.Q_ne HO487.out BK428.out (by decide)) e_) hs_) (fun e_ => NB428_457.out e_)))
         have n1_ := Aside0.mk (blk_kept (by (with_reducible repeat (first | refine kN ?_ _ | refine kD ?_ | refine kA ?_ _)); exact BK441.out) hkp (fun hs_ => Or.elim hs_ (fun hs_ => (fun e_ => (Kd.Q_ne HO487.out BK441.out (by decide)) e_) hs_) (fun e_ => NB441_457.out e_)))
         have n2_ := Aside0.mk (Kd.R_mono (ok' := fun k_ => some k_ ≠ (v450 : Value).ownBlock ∧ some k_ ≠ (v476 : Value).ownBlock ∧ some k_ ≠ (v491 : Value).ownBlock) (Kd.R_keptB ((Kd.R_types HO448.out BK457.out (by decide))) hkp (fun k_ hk_ hs_ => Or.elim hs_ (fun hs_ => (hk_.1.2.2) hs_) (fun e_ => (hk_.2) e_))) (fun k_ hk_ => ⟨hk_.1.1.1, hk_.1.1.2.1, fun e_ => Or.elim (ho0.1 k_ e_.symm) (fun hs_ => hk_.2.1 (.inl hs_)) (fun hn_ => Nat.not_le.2 hk_.2.2 hn_)⟩))
         have n3_ := Aside0.mk (Kd.R_mono (ok' := fun k_ => some k_ ≠ (.slice Ao62 t446.length co62 : Value).ownBlock ∧ some k_ ≠ (v476 : Value).ownBlock ∧ some k_ ≠ (v491 : Value).ownBlock) (Kd.R_keptB ((Kd.R_types HO451.out BK457.out (by decide))) hkp (fun k_ hk_ hs_ => Or.elim hs_ (fun hs_ => (hk_.1.2.2) hs_) (fun e_ => (hk_.2) e_))) (fun k_ hk_ => ⟨hk_.1.1.1, hk_.1.1.2.1, fun e_ => Or.elim (ho0.1 k_ e_.symm) (fun hs_ => hk_.2.1 (.inl hs_)) (fun hn_ => Nat.not_le.2 hk_.2.2 hn_)⟩))
         have n4_ := Aside0.mk (hi)
         have n5_ := Aside0.mk (blk_kept (by (with_reducible repeat (first | refine kN ?_ _ | refine kD ?_ | refine kA ?_ _)); exact BK462.out) hkp (fun hs_ => Or.elim hs_ (fun hs_ => (fun e_ => (Kd.Q_ne HO487.out BK462.out (by decide)) e_) hs_) (fun e_ => NB462_457.out e_)))
         have n6_ := Aside0.mk (blk_kept (by (with_reducible repeat (first | refine kN ?_ _ | refine kD ?_ | refine kA ?_ _)); exact BK473.out) hkp (fun hs_ => Or.elim hs_ (fun hs_ => (fun e_ => (Kd.Q_ne HO487.out BK473.out (by decide)) e_) hs_) (fun e_ => NB473_457.out e_)))
         have n7_ := Aside0.mk (Kd.Q_mono (ok' := fun k_ => some k_ ≠ (.slice Ao62 t446.length co62 : Value).ownBlock ∧ some k_ ≠ (v450 : Value).ownBlock ∧ some k_ ≠ (v491 : Value).ownBlock) (Kd.Q_keptB ((Kd.Q_types HO477.out BK457.out (by decide))) hkp (fun k_ hk_ hs_ => Or.elim hs_ (fun hs_ => (hk_.1.2.2) hs_) (fun e_ => (hk_.2) e_))) (fun k_ hk_ => ⟨hk_.1.1.1, hk_.1.1.2.1, fun e_ => Or.elim (ho0.1 k_ e_.symm) (fun hs_ => hk_.2.1 (.inl hs_)) (fun hn_ => Nat.not_le.2 hk_.2.2 hn_)⟩))
         have n8_ := Aside0.mk (Kd.Q_mono (ok' := fun k_ => some k_ ≠ (.slice Ao62 t446.length co62 : Value).ownBlock ∧ some k_ ≠ (v450 : Value).ownBlock ∧ some k_ ≠ (v476 : Value).ownBlock) ho0 (fun k_ hk_ => ⟨Or.elim hk_ (fun hs_ => fun e_ => ((((Kd.R_types HO448.out BK457.out (by decide))).1 k_ e_.symm).1.2.2) hs_) (fun hn_ => (Kd.fresh' (Kd.R_lt (by (with_reducible repeat (first | apply Kd.R_alloc | apply Kd.R_drewN | apply Kd.R_drew)); exact HO448.out)) k_ hn_)), Or.elim hk_ (fun hs_ => fun e_ => ((((Kd.R_types HO451.out BK457.out (by decide))).1 k_ e_.symm).1.2.2) hs_) (fun hn_ => (Kd.fresh' (Kd.R_lt (by (with_reducible repeat (first | apply Kd.R_alloc | apply Kd.R_drewN | apply Kd.R_drew)); exact HO451.out)) k_ hn_)), Or.elim hk_ (fun hs_ => fun e_ => ((((Kd.Q_types HO477.out BK457.out (by decide))).1 k_ e_.symm).1.2.2) hs_) (fun hn_ => (Kd.fresh' (Kd.Q_lt (by (with_reducible repeat (first | apply Kd.Q_alloc | apply Kd.Q_drewN | apply Kd.Q_drew)); exact HO477.out)) k_ hn_))⟩))
         have n9_ := Aside0.mk (hb)
         clear BK428
         clear BK441
         clear HO448
         clear HO451
         clear BK457
         clear BK462
         clear BK473
         clear HO477
         clear HB
         clear HO487
         have BK428 := n0_
         have BK441 := n1_
         have HO448 := n2_
         have HO451 := n3_
         have BK457 := n4_
         have BK462 := n5_
         have BK473 := n6_
         have HO477 := n7_
         have HO492 := n8_
         have HB := n9_
         clear n0_ n1_ n2_ n3_ n4_ n5_ n6_ n7_ n8_ n9_
         (try clear hb)
         (try clear hkp)
         (try clear hi)
         (try clear ho0)
         refine hK.out _ _ ⟨(kC BK428.out 0).trans rfl, (kC BK428.out 1).trans rfl, (kC BK428.out 2).trans rfl, (kC BK428.out 3).trans rfl, (kC BK428.out 4).trans rfl, (kC BK428.out 5).trans rfl⟩ (fun hHeld => ?_)
         clear hK K
         refine norm_ (a' := ?_) ?_ ?_
         rotate_left
         ·show Act.put _ (some 44) _ = _
          simp only [Act.put, List.setIfInBounds_toArray, List.set_cons_zero, List.set_cons_succ, i64_w, i32_w]
          rfl
         refine pure_ (i := 7) (N := some 45) (v := ?_) (a' := ?_) #[T,T,T,T,T,T,T,T,F,F,F,F,F,F,F,F,F,F,F,F,F,F,F,F,F,F,F,F,F,F,F,F] rfl rfl (any_of HT_.out (by kernel_rfl)) (fun _ _ _ h => h) (Or.inl ⟨by rfl, ?_⟩) ?_ ?_
         rotate_left
         ·intro w'
          go_simp
          with_reducible rfl
         rotate_left
         ·simp only [Act.put, List.setIfInBounds_toArray, List.set_cons_zero, List.set_cons_succ, i64_w, i32_w]
          rfl
         refine pure_ (i := 8) (N := some 46) (v := ?_) (a' := ?_) #[T,T,T,T,T,T,T,T,T,F,F,F,F,F,F,F,F,F,F,F,F,F,F,F,F,F,F,F,F,F,F,F] rfl rfl (any_of HT_.out (by kernel_rfl)) (fun _ _ _ h => h) (Or.inl ⟨by rfl, ?_⟩) ?_ ?_
         rotate_left
         ·intro w'
          go_simp
          with_reducible rfl
         rotate_left
         ·simp only [Act.put, List.setIfInBounds_toArray, List.set_cons_zero, List.set_cons_succ, i64_w, i32_w]
          rfl
         refine pure_ (i := 9) (N := some 47) (v := ?_) (a' := ?_) #[T,T,T,T,T,T,T,T,T,T,F,F,F,F,F,F,F,F,F,F,F,F,F,F,F,F,F,F,F,F,F,F] rfl rfl (any_of HT_.out (by kernel_rfl)) (fun _ _ _ h => h) (Or.inl ⟨by rfl, ?_⟩) ?_ ?_
         rotate_left
         ·intro w'
          go_simp
          with_reducible rfl
         rotate_left
         ·simp only [Act.put, List.setIfInBounds_toArray, List.set_cons_zero, List.set_cons_succ, i64_w, i32_w]
          rfl
         refine pure_ (i := 10) (N := some 48) (v := ?_) (a' := ?_) #[T,T,T,T,T,T,T,T,T,T,T,F,F,F,F,F,F,F,F,F,F,F,F,F,F,F,F,F,F,F,F,F] rfl rfl (any_of HT_.out (by kernel_rfl)) (fun _ _ _ h => h) (Or.inl ⟨by rfl, ?_⟩) ?_ ?_
         rotate_left
         ·intro w'
          go_simp
          with_reducible rfl
         rotate_left
         ·simp only [Act.put, List.setIfInBounds_toArray, List.set_cons_zero, List.set_cons_succ, i64_w, i32_w]
          rfl
         refine pure_ (i := 11) (N := some 49) (v := ?_) (a' := ?_) #[T,T,T,T,T,T,T,T,T,T,T,T,F,F,F,F,F,F,F,F,F,F,F,F,F,F,F,F,F,F,F,F] rfl rfl (any_of HT_.out (by kernel_rfl)) (fun _ _ _ h => h) (Or.inl ⟨by rfl, ?_⟩) ?_ ?_
         rotate_left
         ·intro w'
          go_simp
          with_reducible rfl
         rotate_left
         ·simp only [Act.put, List.setIfInBounds_toArray, List.set_cons_zero, List.set_cons_succ, i64_w, i32_w]
          rfl
         refine pure_ (i := 12) (N := some 50) (v := undef) (a' := ?_) #[T,T,T,T,T,T,T,T,T,T,T,T,T,F,F,F,F,F,F,F,F,F,F,F,F,F,F,F,F,F,F,F] rfl rfl (any_of HT_.out (by kernel_rfl)) (fun _ _ _ h => h) (Or.inr ⟨by rfl, rfl⟩) ?_ ?_
         rotate_left
         ·simp only [Act.put, List.setIfInBounds_toArray, List.set_cons_zero, List.set_cons_succ, i64_w, i32_w]
          rfl
         refine pure_ (i := 13) (N := some 51) (v := undef) (a' := ?_) #[T,T,T,T,T,T,T,T,T,T,T,T,T,T,F,F,F,F,F,F,F,F,F,F,F,F,F,F,F,F,F,F] rfl rfl (any_of HT_.out (by kernel_rfl)) (fun _ _ _ h => h) (Or.inr ⟨by rfl, rfl⟩) ?_ ?_
         rotate_left
         ·simp only [Act.put, List.setIfInBounds_toArray, List.set_cons_zero, List.set_cons_succ, i64_w, i32_w]
          rfl
         refine pure_ (i := 14) (N := some 52) (v := undef) (a' := ?_) #[T,T,T,T,T,T,T,T,T,T,T,T,T,T,T,F,F,F,F,F,F,F,F,F,F,F,F,F,F,F,F,F] rfl rfl (any_of HT_.out (by kernel_rfl)) (fun _ _ _ h => h) (Or.inr ⟨by rfl, rfl⟩) ?_ ?_
         rotate_left
         ·simp only [Act.put, List.setIfInBounds_toArray, List.set_cons_zero, List.set_cons_succ, i64_w, i32_w]
          rfl
         refine pure_ (i := 15) (N := some 53) (v := undef) (a' := ?_) #[T,T,T,T,T,T,T,T,T,T,T,T,T,T,T,T,F,F,F,F,F,F,F,F,F,F,F,F,F,F,F,F] rfl rfl (any_of HT_.out (by kernel_rfl)) (fun _ _ _ h => h) (Or.inr ⟨by rfl, rfl⟩) ?_ ?_
         rotate_left
         ·simp only [Act.put, List.setIfInBounds_toArray, List.set_cons_zero, List.set_cons_succ, i64_w, i32_w]
          rfl
         refine pure_ (i := 16) (N := some 54) (v := undef) (a' := ?_) #[T,T,T,T,T,T,T,T,T,T,T,T,T,T,T,T,T,F,F,F,F,F,F,F,F,F,F,F,F,F,F,F] rfl rfl (any_of HT_.out (by kernel_rfl)) (fun _ _ _ h => h) (Or.inr ⟨by rfl, rfl⟩) ?_ ?_
         rotate_left
         ·simp only [Act.put, List.setIfInBounds_toArray, List.set_cons_zero, List.set_cons_succ, i64_w, i32_w]
          rfl
         refine pure_ (i := 17) (N := some 55) (v := undef) (a' := ?_) #[T,T,T,T,T,T,T,T,T,T,T,T,T,T,T,T,T,T,F,F,F,F,F,F,F,F,F,F,F,F,F,F] rfl rfl (any_of HT_.out (by kernel_rfl)) (fun _ _ _ h => h) (Or.inr ⟨by rfl, rfl⟩) ?_ ?_
         rotate_left
         ·simp only [Act.put, List.setIfInBounds_toArray, List.set_cons_zero, List.set_cons_succ, i64_w, i32_w]
          rfl
         refine pure_ (i := 18) (N := some 56) (v := undef) (a' := ?_) #[T,T,T,T,T,T,T,T,T,T,T,T,T,T,T,T,T,T,T,F,F,F,F,F,F,F,F,F,F,F,F,F] rfl rfl (any_of HT_.out (by kernel_rfl)) (fun _ _ _ h => h) (Or.inr ⟨by rfl, rfl⟩) ?_ ?_
         rotate_left
         ·simp only [Act.put, List.setIfInBounds_toArray, List.set_cons_zero, List.set_cons_succ, i64_w, i32_w]
          rfl
         refine pure_ (i := 19) (N := some 57) (v := undef) (a' := ?_) #[T,T,T,T,T,T,T,T,T,T,T,T,T,T,T,T,T,T,T,T,F,F,F,F,F,F,F,F,F,F,F,F] rfl rfl (any_of HT_.out (by kernel_rfl)) (fun _ _ _ h => h) (Or.inr ⟨by rfl, rfl⟩) ?_ ?_
         rotate_left
         ·simp only [Act.put, List.setIfInBounds_toArray, List.set_cons_zero, List.set_cons_succ, i64_w, i32_w]
          rfl
         refine pure_ (i := 20) (N := some 58) (v := undef) (a' := ?_) #[T,T,T,T,T,T,T,T,T,T,T,T,T,T,T,T,T,T,T,T,T,F,F,F,F,F,F,F,F,F,F,F] rfl rfl (any_of HT_.out (by kernel_rfl)) (fun _ _ _ h => h) (Or.inr ⟨by rfl, rfl⟩) ?_ ?_
         rotate_left
         ·simp only [Act.put, List.setIfInBounds_toArray, List.set_cons_zero, List.set_cons_succ, i64_w, i32_w]
          rfl
         refine pure_ (i := 21) (N := some 59) (v := undef) (a' := ?_) #[T,T,T,T,T,T,T,T,T,T,T,T,T,T,T,T,T,T,T,T,T,T,F,F,F,F,F,F,F,F,F,F] rfl rfl (any_of HT_.out (by kernel_rfl)) (fun _ _ _ h => h) (Or.inr ⟨by rfl, rfl⟩) ?_ ?_
         rotate_left
         ·simp only [Act.put, List.setIfInBounds_toArray, List.set_cons_zero, List.set_cons_succ, i64_w, i32_w]
          rfl
         refine pure_ (i := 22) (N := some 60) (v := undef) (a' := ?_) #[T,T,T,T,T,T,T,T,T,T,T,T,T,T,T,T,T,T,T,T,T,T,T,F,F,F,F,F,F,F,F,F] rfl rfl (any_of HT_.out (by kernel_rfl)) (fun _ _ _ h => h) (Or.inr ⟨by rfl, rfl⟩) ?_ ?_
         rotate_left
         ·simp only [Act.put, List.setIfInBounds_toArray, List.set_cons_zero, List.set_cons_succ, i64_w, i32_w]
          rfl
         refine pure_ (i := 23) (N := some 61) (v := undef) (a' := ?_) #[T,T,T,T,T,T,T,T,T,T,T,T,T,T,T,T,T,T,T,T,T,T,T,T,F,F,F,F,F,F,F,F] rfl rfl (any_of HT_.out (by kernel_rfl)) (fun _ _ _ h => h) (Or.inr ⟨by rfl, rfl⟩) ?_ ?_
         rotate_left
         ·simp only [Act.put, List.setIfInBounds_toArray, List.set_cons_zero, List.set_cons_succ, i64_w, i32_w]
          rfl
         refine pure_ (i := 24) (N := some 62) (v := undef) (a' := ?_) #[T,T,T,T,T,T,T,T,T,T,T,T,T,T,T,T,T,T,T,T,T,T,T,T,T,F,F,F,F,F,F,F] rfl rfl (any_of HT_.out (by kernel_rfl)) (fun _ _ _ h => h) (Or.inr ⟨by rfl, rfl⟩) ?_ ?_
         rotate_left
         ·simp only [Act.put, List.setIfInBounds_toArray, List.set_cons_zero, List.set_cons_succ, i64_w, i32_w]
          rfl
         refine pure_ (i := 25) (N := some 63) (v := undef) (a' := ?_) #[T,T,T,T,T,T,T,T,T,T,T,T,T,T,T,T,T,T,T,T,T,T,T,T,T,T,F,F,F,F,F,F] rfl rfl (any_of HT_.out (by kernel_rfl)) (fun _ _ _ h => h) (Or.inr ⟨by rfl, rfl⟩) ?_ ?_
         rotate_left
         ·simp only [Act.put, List.setIfInBounds_toArray, List.set_cons_zero, List.set_cons_succ, i64_w, i32_w]
          rfl
         refine pure_ (i := 26) (N := some 64) (v := undef) (a' := ?_) #[T,T,T,T,T,T,T,T,T,T,T,T,T,T,T,T,T,T,T,T,T,T,T,T,T,T,T,F,F,F,F,F] rfl rfl (any_of HT_.out (by kernel_rfl)) (fun _ _ _ h => h) (Or.inr ⟨by rfl, rfl⟩) ?_ ?_
         rotate_left
         ·simp only [Act.put, List.setIfInBounds_toArray, List.set_cons_zero, List.set_cons_succ, i64_w, i32_w]
          rfl
         refine pure_ (i := 27) (N := some 65) (v := undef) (a' := ?_) #[T,T,T,T,T,T,T,T,T,T,T,T,T,T,T,T,T,T,T,T,T,T,T,T,T,T,T,T,F,F,F,F] rfl rfl (any_of HT_.out (by kernel_rfl)) (fun _ _ _ h => h) (Or.inr ⟨by rfl, rfl⟩) ?_ ?_
         rotate_left
         ·simp only [Act.put, List.setIfInBounds_toArray, List.set_cons_zero, List.set_cons_succ, i64_w, i32_w]
          rfl
         refine pure_ (i := 28) (N := some 66) (v := undef) (a' := ?_) #[T,T,T,T,T,T,T,T,T,T,T,T,T,T,T,T,T,T,T,T,T,T,T,T,T,T,T,T,T,F,F,F] rfl rfl (any_of HT_.out (by kernel_rfl)) (fun _ _ _ h => h) (Or.inr ⟨by rfl, rfl⟩) ?_ ?_
         rotate_left
         ·simp only [Act.put, List.setIfInBounds_toArray, List.set_cons_zero, List.set_cons_succ, i64_w, i32_w]
          rfl
         refine pure_ (i := 29) (N := some 67) (v := ?_) (a' := ?_) #[T,T,T,T,T,T,T,T,T,T,T,T,T,T,T,T,T,T,T,T,T,T,T,T,T,T,T,T,T,T,F,F] rfl rfl (any_of HT_.out (by kernel_rfl)) (fun _ _ _ h => h) (Or.inl ⟨by rfl, ?_⟩) ?_ ?_
         rotate_left
         ·intro w'
          go_simp
          with_reducible rfl
         rotate_left
         ·simp only [Act.put, List.setIfInBounds_toArray, List.set_cons_zero, List.set_cons_succ, i64_w, i32_w]
          rfl
         refine pure_ (i := 30) (N := some 68) (v := ?_) (a' := ?_) #[T,T,T,T,T,T,T,T,T,T,T,T,T,T,T,T,T,T,T,T,T,T,T,T,T,T,T,T,T,T,T,F] rfl rfl (any_of HT_.out (by kernel_rfl)) (fun _ _ _ h => h) (Or.inl ⟨by rfl, ?_⟩) ?_ ?_
         rotate_left
         ·intro w'
          go_simp
          with_reducible rfl
         rotate_left
         ·simp only [Act.put, List.setIfInBounds_toArray, List.set_cons_zero, List.set_cons_succ, i64_w, i32_w]
          rfl
         refine pure_ (i := 31) (N := some 6) (v := ?_) (a' := ?_) #[T,T,T,T,T,T,T,T,T,T,T,T,T,T,T,T,T,T,T,T,T,T,T,T,T,T,T,T,T,T,T,T] rfl rfl (any_of HT_.out (by kernel_rfl)) (fun _ _ _ h => h) (Or.inl ⟨by rfl, ?_⟩) ?_ ?_
         rotate_left
         ·intro w'
          go_simp
          with_reducible rfl
         rotate_left
         ·simp only [Act.put, List.setIfInBounds_toArray, List.set_cons_zero, List.set_cons_succ, i64_w, i32_w]
          rfl
         refine done_ (done_of HT_.out (by kernel_rfl)) ?_
         try go_wp2
         go_ret
         exact ⟨by first | rfl | (simp [errW_none, errW_some] <;> rfl) | (simp [*, errW_none, errW_some] <;> rfl), by repeat (first | (with_reducible first | exact HB.out | apply kL | apply kM | apply kE | refine kS ?_ GE428.out | refine kS ?_ GE441.out | refine kS ?_ GE457.out | refine kS ?_ GE462.out | refine kS ?_ GE473.out) | exact HB.out)⟩
       ·rw [if_neg c30] at H
        have c30b0 : (t489 == 0) = false := beq_eq_false_iff_ne.mpr c30
        have c30b1 : (t489 != 0) = true := bne_iff_ne.mpr c30
        exact absurd H (by simp)
      ·rw [if_neg c28] at H
       have c28b0 : (t479 == t431 && (t480 == t432 && (t481 == t433 && (t482 == t434 && (t483 == t435 && (t484 == x429005_13)))))) = false := by simpa using c28
       (try (have c28b1 : decide (t479 = t431 && (t480 == t432 && (t481 == t433 && (t482 == t434 && (t483 == t435 && (t484 == x429005_13)))))) = false := by simpa using c28))
       (try (have c28b2 : (t479 == t431 && (t480 == t432 && (t481 == t433 && (t482 == t434 && (t483 == t435 && (t484 == x429005_13)))))) = false := by simpa using c28))
       (try (have c28b3 : ¬ (t479 = t431 && (t480 == t432 && (t481 == t433 && (t482 == t434 && (t483 == t435 && (t484 == x429005_13)))))) := by simpa using c28))
       clear c28
       exact absurd H (by simp)

/-- THE ONE PURE STATEMENT of paybooklaw10_OrderNotices: yours. -/
def paybooklaw10_OrderNotices.Pure : Prop := ∀ (a0_0 : Int) (a0_1 : Int) (a0_2 : Int) (a0_3 : Int) (a0_4 : Int) (a0_5 : Int) (a1 : Bool) (l2 : List Int), (Lit.int .u8 a0_0).wf = true → (Lit.int .i64 a0_1).wf = true → (Lit.int .i64 a0_2).wf = true → (Lit.int .i64 a0_3).wf = true → (Lit.int .i64 a0_4).wf = true → (Lit.int .u8 a0_5).wf = true → l2.length ≤ maxLen → l2.length * 1 ≤ 140737488351232 → (∀ x ∈ l2, (Lit.int .u8 x).wf = true) → ∃ k, paybooklaw10_OrderNotices.f k a0_0 a0_1 a0_2 a0_3 a0_4 a0_5 a1 l2 = some true
theorem paybooklaw10_OrderNotices.walk (P : paybooklaw10_OrderNotices.Pure) (a0_0 : Int) (a0_1 : Int) (a0_2 : Int) (a0_3 : Int) (a0_4 : Int) (a0_5 : Int) (a1 : Bool) (a2 : Option Addr) (len2 cap2 : Nat) (z2 : List Int) (w : World) (w0_0 : (Lit.int .u8 a0_0).wf = true) (w0_1 : (Lit.int .i64 a0_1).wf = true) (w0_2 : (Lit.int .i64 a0_2).wf = true) (w0_3 : (Lit.int .i64 a0_3).wf = true) (w0_4 : (Lit.int .i64 a0_4).wf = true) (w0_5 : (Lit.int .u8 a0_5).wf = true) (w2 : (a2 = none ∧ len2 = 0 ∧ cap2 = 0 ∧ z2 = []) ∨ ∃ x, a2 = some x ∧ len2 ≤ cap2 ∧ cap2 ≤ maxLen ∧ z2.length = cap2 ∧ (∀ i, i < z2.length → w.cell? (x.add i) = some (.int .u8 (z2.getD i 0))) ∧ ∀ n ∈ z2, (Lit.int .u8 n).wf = true) (y2 : len2 * 1 ≤ 140737488351232) :
  Calls Try.prog 6 #[.agg #[.int .u8 a0_0, .int .i64 a0_1, .int .i64 a0_2, .int .i64 a0_3, .int .i64 a0_4, .int .u8 a0_5], .bool a1, .slice a2 len2 cap2] w fun e w' => e = .returned (.bool true) ∧ Below w.heap.size w w' := by
 obtain ⟨l2, rfl, hr2, hm2, hw2, hc2⟩ := ReadsInt.ofRowC w2
 obtain ⟨k, h⟩ := P a0_0 a0_1 a0_2 a0_3 a0_4 a0_5 a1 l2 w0_0 w0_1 w0_2 w0_3 w0_4 w0_5 hm2 y2 hw2
 refine (paybooklaw10_OrderNotices.calls k a0_0 a0_1 a0_2 a0_3 a0_4 a0_5 a1 _ _ l2 w (Kd.C_of_reads (d := (0 : Int)) (h1 := fun _ => rfl) hr2) hc2 h).mono ?_
 rintro e w' ⟨rfl, hd⟩
 exact ⟨rfl, hd⟩

end Go.Proofs.Ytlihgjonmliodaa.PA
