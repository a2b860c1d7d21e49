-- printed by this workplace: wip/patchprint.py over the kit's print
import Derived.Test.YtlihgjonmliodaaPAx0
import Derived.Test.YtlihgjonmliodaaPAx5
import Derived.Test.YtlihgjonmliodaaPAx9
import Derived.Test.YtlihgjonmliodaaPAx21
import Derived.Test.YtlihgjonmliodaaPAx22
import Derived.Test.YtlihgjonmliodaaPAx23
import Derived.Test.YtlihgjonmliodaaPAx24
import Derived.Test.YtlihgjonmliodaaPAx26
namespace Go.Proofs.Ytlihgjonmliodaa.PA
open Go.RowKit Go.Proofs.YtlihgjonmliodaaW.PrintWords Go.Proofs.YtlihgjonmliodaaW.PrintLast Go.Proofs.YtlihgjonmliodaaW.PrintMore
attribute [local go_sem] max2_int min2_int max_two min_two max_three min_three max_four min_four   -- for this text's walks alone
set_option linter.unusedVariables false
set_option linter.unusedSimpArgs false

/-! ### order_Decode: function 24 -/
def order_Decode.j0 : Nat → List Int → Int → Int → Int → Int → Int → Int → Int → Int → Int → Bool → Bool → Int → Int → Int → Int → Int → Int → Option (Int × Int × Int × Int × Int × Int × Int × Int × Bool × Bool × Int × Int × Int × Int × Int × Int × Int)
 | 0, _, _, _, _, _, _, _, _, _, _, _, _, _, _, _, _, _, _ => none
 | k + 1, x543000, x543001, x549000, x549001, x549002, x549003, x549004, x549005, x549006, x549007, x549008, x549009, x549010, x549011, x549012, x549013, x549014, x549015 => (pack_Box_End.f x543000 x543001).bind fun bt586 => (if bt586.1 = 0 then ((order_Right.f k x549000 x549001 x549002 x549003 x549004 x549005 x549006 x549007 x549008 x549009 x549010 x549011 x549012 x549013 x549014 x549015).bind fun t591 => (if t591 = 0 then (some (x549000, x549001, x549002, x549003, x549004, x549005, x549006, x549007, x549008, x549009, x549010, x549011, x549012, x549013, x549014, x549015, 0)) else (some (0, 0, 0, 0, 0, 0, 0, 0, false, false, 0, 0, 0, 0, 0, 0, 4)))) else (some (0, 0, 0, 0, 0, 0, 0, 0, false, false, 0, 0, 0, 0, 0, 0, 4)))
def order_Decode.f (k : Nat) (l0 : List Int) : Option (Int × Int × Int × Int × Int × Int × Int × Int × Bool × Bool × Int × Int × Int × Int × Int × Int × Int) := (pack_Of.f l0).bind fun bt538 => ((pack_Box_Get.f k bt538.1 bt538.2 1 10).bind fun bt543 => ((order_subs.f ((bt543.1) % 256)).bind fun t549 => (if t549 = true then ((pack_Box_Get.f k bt543.2.1 bt543.2.2 0 31).bind fun bt550 => ((order_plans.f ((bt543.1) % 256)).bind fun t555 => (if t555 = true then ((pack_Box_Get.f k bt550.2.1 bt550.2.2 0 7).bind fun bt556 => (order_Decode.j0 k bt556.2.1 bt556.2.2 ((bt543.1) % 256) bt550.1 bt556.1 0 0 0 0 0 false false 0 0 0 0 0 0)) else (order_Decode.j0 k bt550.2.1 bt550.2.2 ((bt543.1) % 256) bt550.1 0 0 0 0 0 0 false false 0 0 0 0 0 0)))) else (if ((bt543.1) % 256) = 1 then ((plan_Get.f k bt543.2.1 bt543.2.2).bind fun bt561 => (order_Decode.j0 k bt561.2.2.2.2.2.2.1 bt561.2.2.2.2.2.2.2 ((bt543.1) % 256) 0 0 0 bt561.1 bt561.2.1 bt561.2.2.1 bt561.2.2.2.1 bt561.2.2.2.2.1 bt561.2.2.2.2.2.1 0 0 0 0 0 0)) else (if ((bt543.1) % 256) = 9 then ((pack_Box_Get.f k bt543.2.1 bt543.2.2 1 60).bind fun bt571 => (order_Decode.j0 k bt571.2.1 bt571.2.2 ((bt543.1) % 256) 0 0 bt571.1 0 0 0 0 false false 0 0 0 0 0 0)) else (if ((bt543.1) % 256) = 10 then ((order_Get.f k bt543.2.1 bt543.2.2).bind fun bt576 => (order_Decode.j0 k bt576.2.2.2.2.2.2.1 bt576.2.2.2.2.2.2.2 ((bt543.1) % 256) 0 0 0 0 0 0 0 false false bt576.1 bt576.2.1 bt576.2.2.1 bt576.2.2.2.1 bt576.2.2.2.2.1 bt576.2.2.2.2.2.1)) else (order_Decode.j0 k bt543.2.1 bt543.2.2 ((bt543.1) % 256) 0 0 0 0 0 0 0 false false 0 0 0 0 0 0)))))))
theorem order_Decode.mono_l : ∀ k, (∀ y0 y1 y2 y3 y4 y5 y6 y7 y8 y9 y10 y11 y12 y13 y14 y15 y16 y17, LeO (order_Decode.j0 k y0 y1 y2 y3 y4 y5 y6 y7 y8 y9 y10 y11 y12 y13 y14 y15 y16 y17) (order_Decode.j0 (k + 1) y0 y1 y2 y3 y4 y5 y6 y7 y8 y9 y10 y11 y12 y13 y14 y15 y16 y17))
 | 0 => fun _ _ _ _ _ _ _ _ _ _ _ _ _ _ _ _ _ _ r h => by simp [order_Decode.j0] at h
 | k + 1 => by
  have ih0 := order_Decode.mono_l k
  ·intro y0 y1 y2 y3 y4 y5 y6 y7 y8 y9 y10 y11 y12 y13 y14 y15 y16 y17
   unfold order_Decode.j0
   repeat' first
   | (with_reducible exact ih0 _ _ _ _ _ _ _ _ _ _ _ _ _ _ _ _ _ _)
   | (with_reducible exact order_Get.mono _ _ _)
   | (with_reducible exact order_Right.mono _ _ _ _ _ _ _ _ _ _ _ _ _ _ _ _ _)
   | (with_reducible exact pack_Box_Get.mono _ _ _ _ _)
   | (with_reducible exact plan_Get.mono _ _ _)
   | (with_reducible exact LeO.refl _)
   | (with_reducible exact LeO.none _)
   | (with_reducible refine LeO.ite ?_ ?_)
   | (with_reducible refine LeO.bind ?_ (fun _ => ?_))
   | exact ih0 _ _ _ _ _ _ _ _ _ _ _ _ _ _ _ _ _ _
   | exact order_Get.mono _ _ _
   | exact order_Right.mono _ _ _ _ _ _ _ _ _ _ _ _ _ _ _ _ _
   | exact pack_Box_Get.mono _ _ _ _ _
   | exact plan_Get.mono _ _ _
   | exact LeO.none _
   | refine LeO.ite ?_ ?_
   | refine LeO.bind ?_ (fun _ => ?_)
theorem order_Decode.mono : ∀ a0 k, LeO (order_Decode.f k a0) (order_Decode.f (k + 1) a0) := by
 intro a0 k
 have ih0 := order_Decode.mono_l k
 unfold order_Decode.f
 repeat' first
   | (with_reducible exact ih0 _ _ _ _ _ _ _ _ _ _ _ _ _ _ _ _ _ _)
   | (with_reducible exact order_Get.mono _ _ _)
   | (with_reducible exact order_Right.mono _ _ _ _ _ _ _ _ _ _ _ _ _ _ _ _ _)
   | (with_reducible exact pack_Box_Get.mono _ _ _ _ _)
   | (with_reducible exact plan_Get.mono _ _ _)
   | (with_reducible exact LeO.refl _)
   | (with_reducible exact LeO.none _)
   | (with_reducible refine LeO.ite ?_ ?_)
   | (with_reducible refine LeO.bind ?_ (fun _ => ?_))
   | exact ih0 _ _ _ _ _ _ _ _ _ _ _ _ _ _ _ _ _ _
   | exact order_Get.mono _ _ _
   | exact order_Right.mono _ _ _ _ _ _ _ _ _ _ _ _ _ _ _ _ _
   | exact pack_Box_Get.mono _ _ _ _ _
   | exact plan_Get.mono _ _ _
   | exact LeO.none _
   | refine LeO.ite ?_ ?_
   | refine LeO.bind ?_ (fun _ => ?_)
set_option maxHeartbeats 40000000 in
set_option maxRecDepth 100000 in
theorem order_Decode.calls (k : Nat) (A0 : Option Addr) (c0 : Nat) (l0 : List Int) (r1 : Int) (r2 : Int) (r3 : Int) (r4 : Int) (r5 : Int) (r6 : Int) (r7 : Int) (r8 : Int) (r9 : Bool) (r10 : Bool) (r11 : Int) (r12 : Int) (r13 : Int) (r14 : Int) (r15 : Int) (r16 : Int) (r17 : Int) (w : World) (hr0 : Kd.C (Kd.int .u8) w A0 l0.length l0) (hc0 : l0.length ≤ c0) (h : order_Decode.f k l0 = some (r1, r2, r3, r4, r5, r6, r7, r8, r9, r10, r11, r12, r13, r14, r15, r16, r17)) :
  Calls Try.prog 24 #[.slice A0 l0.length c0] w fun e w' => e = .returned (.tuple #[.agg #[.int .u8 r1, .int .i64 r2, .int .i64 r3, .int .i64 r4, .int .i64 r5, .int .u8 r6, .int .i64 r7, .int .i64 r8, .bool r9, .bool r10, .int .u8 r11, .int .i64 r12, .int .i64 r13, .int .i64 r14, .int .i64 r15, .int .u8 r16], .int .i64 r17]) ∧ Below w.heap.size w w' := by
 have hu27 := Try.underlying27
 have hu23 := Try.underlying23
 have hu25 := Try.underlying25
 have HR0 := Aside0.mk hr0
 have HC0 := Aside0.mk hc0
 clear hr0 hc0
 have HB := Aside0.mk (Below.refl w.heap.size w)
 have H : ((pack_Of.f l0).bind fun bt538 => ((pack_Box_Get.f k bt538.1 bt538.2 1 10).bind fun bt543 => ((order_subs.f ((bt543.1) % 256)).bind fun t549 => (if t549 = true then ((pack_Box_Get.f k bt543.2.1 bt543.2.2 0 31).bind fun bt550 => ((order_plans.f ((bt543.1) % 256)).bind fun t555 => (if t555 = true then ((pack_Box_Get.f k bt550.2.1 bt550.2.2 0 7).bind fun bt556 => (order_Decode.j0 k bt556.2.1 bt556.2.2 ((bt543.1) % 256) bt550.1 bt556.1 0 0 0 0 0 false false 0 0 0 0 0 0)) else (order_Decode.j0 k bt550.2.1 bt550.2.2 ((bt543.1) % 256) bt550.1 0 0 0 0 0 0 false false 0 0 0 0 0 0)))) else (if ((bt543.1) % 256) = 1 then ((plan_Get.f k bt543.2.1 bt543.2.2).bind fun bt561 => (order_Decode.j0 k bt561.2.2.2.2.2.2.1 bt561.2.2.2.2.2.2.2 ((bt543.1) % 256) 0 0 0 bt561.1 bt561.2.1 bt561.2.2.1 bt561.2.2.2.1 bt561.2.2.2.2.1 bt561.2.2.2.2.2.1 0 0 0 0 0 0)) else (if ((bt543.1) % 256) = 9 then ((pack_Box_Get.f k bt543.2.1 bt543.2.2 1 60).bind fun bt571 => (order_Decode.j0 k bt571.2.1 bt571.2.2 ((bt543.1) % 256) 0 0 bt571.1 0 0 0 0 false false 0 0 0 0 0 0)) else (if ((bt543.1) % 256) = 10 then ((order_Get.f k bt543.2.1 bt543.2.2).bind fun bt576 => (order_Decode.j0 k bt576.2.2.2.2.2.2.1 bt576.2.2.2.2.2.2.2 ((bt543.1) % 256) 0 0 0 0 0 0 0 false false bt576.1 bt576.2.1 bt576.2.2.1 bt576.2.2.2.1 bt576.2.2.2.2.1 bt576.2.2.2.2.2.1)) else (order_Decode.j0 k bt543.2.1 bt543.2.2 ((bt543.1) % 256) 0 0 0 0 0 0 0 false false 0 0 0 0 0 0)))))))) = some (r1, r2, r3, r4, r5, r6, r7, r8, r9, r10, r11, r12, r13, r14, r15, r16, r17) := h
 clear h
 replace H := Option.bind_eq_some_iff.mp H
 obtain ⟨⟨t538, t541⟩, A20, H⟩ := H
 replace H : ((pack_Box_Get.f k t538 t541 1 10).bind fun bt543 => ((order_subs.f ((bt543.1) % 256)).bind fun t549 => (if t549 = true then ((pack_Box_Get.f k bt543.2.1 bt543.2.2 0 31).bind fun bt550 => ((order_plans.f ((bt543.1) % 256)).bind fun t555 => (if t555 = true then ((pack_Box_Get.f k bt550.2.1 bt550.2.2 0 7).bind fun bt556 => (order_Decode.j0 k bt556.2.1 bt556.2.2 ((bt543.1) % 256) bt550.1 bt556.1 0 0 0 0 0 false false 0 0 0 0 0 0)) else (order_Decode.j0 k bt550.2.1 bt550.2.2 ((bt543.1) % 256) bt550.1 0 0 0 0 0 0 false false 0 0 0 0 0 0)))) else (if ((bt543.1) % 256) = 1 then ((plan_Get.f k bt543.2.1 bt543.2.2).bind fun bt561 => (order_Decode.j0 k bt561.2.2.2.2.2.2.1 bt561.2.2.2.2.2.2.2 ((bt543.1) % 256) 0 0 0 bt561.1 bt561.2.1 bt561.2.2.1 bt561.2.2.2.1 bt561.2.2.2.2.1 bt561.2.2.2.2.2.1 0 0 0 0 0 0)) else (if ((bt543.1) % 256) = 9 then ((pack_Box_Get.f k bt543.2.1 bt543.2.2 1 60).bind fun bt571 => (order_Decode.j0 k bt571.2.1 bt571.2.2 ((bt543.1) % 256) 0 0 bt571.1 0 0 0 0 false false 0 0 0 0 0 0)) else (if ((bt543.1) % 256) = 10 then ((order_Get.f k bt543.2.1 bt543.2.2).bind fun bt576 => (order_Decode.j0 k bt576.2.2.2.2.2.2.1 bt576.2.2.2.2.2.2.2 ((bt543.1) % 256) 0 0 0 0 0 0 0 false false bt576.1 bt576.2.1 bt576.2.2.1 bt576.2.2.2.1 bt576.2.2.2.2.1 bt576.2.2.2.2.2.1)) else (order_Decode.j0 k bt543.2.1 bt543.2.2 ((bt543.1) % 256) 0 0 0 0 0 0 0 false false 0 0 0 0 0 0))))))) = some (r1, r2, r3, r4, r5, r6, r7, r8, r9, r10, r11, r12, r13, r14, r15, r16, r17) := H
 have A2 := Aside0.mk A20
 clear A20
 replace H := Option.bind_eq_some_iff.mp H
 obtain ⟨⟨t543, t544, t547⟩, A30, H⟩ := H
 replace H : ((order_subs.f ((t543) % 256)).bind fun t549 => (if t549 = true then ((pack_Box_Get.f k t544 t547 0 31).bind fun bt550 => ((order_plans.f ((t543) % 256)).bind fun t555 => (if t555 = true then ((pack_Box_Get.f k bt550.2.1 bt550.2.2 0 7).bind fun bt556 => (order_Decode.j0 k bt556.2.1 bt556.2.2 ((t543) % 256) bt550.1 bt556.1 0 0 0 0 0 false false 0 0 0 0 0 0)) else (order_Decode.j0 k bt550.2.1 bt550.2.2 ((t543) % 256) bt550.1 0 0 0 0 0 0 false false 0 0 0 0 0 0)))) else (if ((t543) % 256) = 1 then ((plan_Get.f k t544 t547).bind fun bt561 => (order_Decode.j0 k bt561.2.2.2.2.2.2.1 bt561.2.2.2.2.2.2.2 ((t543) % 256) 0 0 0 bt561.1 bt561.2.1 bt561.2.2.1 bt561.2.2.2.1 bt561.2.2.2.2.1 bt561.2.2.2.2.2.1 0 0 0 0 0 0)) else (if ((t543) % 256) = 9 then ((pack_Box_Get.f k t544 t547 1 60).bind fun bt571 => (order_Decode.j0 k bt571.2.1 bt571.2.2 ((t543) % 256) 0 0 bt571.1 0 0 0 0 false false 0 0 0 0 0 0)) else (if ((t543) % 256) = 10 then ((order_Get.f k t544 t547).bind fun bt576 => (order_Decode.j0 k bt576.2.2.2.2.2.2.1 bt576.2.2.2.2.2.2.2 ((t543) % 256) 0 0 0 0 0 0 0 false false bt576.1 bt576.2.1 bt576.2.2.1 bt576.2.2.2.1 bt576.2.2.2.2.1 bt576.2.2.2.2.2.1)) else (order_Decode.j0 k t544 t547 ((t543) % 256) 0 0 0 0 0 0 0 false false 0 0 0 0 0 0)))))) = some (r1, r2, r3, r4, r5, r6, r7, r8, r9, r10, r11, r12, r13, r14, r15, r16, r17) := H
 have A3 := Aside0.mk A30
 clear A30
 have HC4 := Aside0.mk H
 clear H
 go_enter Try.func24, Try.ntmps24
 go_upto_block 0 with (first | ((with_reducible refine gate_dst (N := 2) rfl ?_); refine box_event ?hg (N := 2) ?hd (cs := #[.int .u8 0, .int .i64 0, .int .i64 0, .int .i64 0, .int .i64 0, .int .u8 0, .int .i64 0, .int .i64 0, .bool false, .bool false, .int .u8 0, .int .i64 0, .int .i64 0, .int .i64 0, .int .i64 0, .int .u8 0]) (t := 27) ?hr ?_; (case hd => rfl); (case hg => rfl); (case hr => first | (go_simp; done) | (go_simp; rfl)); intro gb537 hg w5 hbox hb; have n0_ := Aside0.mk (below_step (by repeat (first | (with_reducible first | exact HB.out | apply kL | apply kM | apply kE) | exact HB.out)) hb); have n1_ := Aside0.mk (hbox); have n2_ := Aside0.mk ((by rw [hg]; exact (below_size (by repeat (first | (with_reducible first | exact HB.out | apply kL | apply kM | apply kE) | exact HB.out))) : w.heap.size ≤ gb537)); have n3_ := Aside0.mk ((by rw [hg]; exact (below_size (by repeat (first | (with_reducible first | exact HB.out | apply kL | apply kM | apply kE) | exact HB.out))) : w.heap.size ≤ gb537)); clear HB; have HB := n0_; have BK537 := n1_; have GW537 := n2_; have GE537 := n3_; clear n0_ n1_ n2_ n3_; clear hb hbox hg) | ((with_reducible refine gate_callee (f := 19) rfl ?_); refine goesL_ (some 7) rfl rfl Try.func19 (by kernel_rfl) rfl #[.slice A0 l0.length c0] rfl (by (try simp only [List.map_toArray, List.map_cons, List.map_nil]); first | done | rfl | (simp only [List.length_drop, List.length_take]; rfl)) ?_; (with_reducible refine (pack_Of.calls _ _ l0 t538 t541 _ ?side1 ?side2 A2.out).mono ?_); (case side1 => repeat (first | exact (Kd.C_below HR0.out HB.out) | exact HR0.out | (with_reducible refine Kd.C_alloc ?_ _) | (with_reducible refine Kd.C_drewN ?_ _) | (with_reducible refine Kd.C_drew ?_))); (case side2 => exact HC0.out); rintro e w6 ⟨v539, gb542, rfl, ho0, hnb542, hnl542, hb⟩; refine ⟨_, rfl, ?_⟩; have n0_ := Aside0.mk (Kd.R_lower ho0 (below_size (by repeat (first | (with_reducible first | exact HB.out | apply kL | apply kM | apply kE | refine kS ?_ GE537.out) | exact HB.out)))); have n1_ := Aside0.mk (blk_below (g := gb537) (o := .cells #[.int .u8 0, .int .i64 0, .int .i64 0, .int .i64 0, .int .i64 0, .int .u8 0, .int .i64 0, .int .i64 0, .bool false, .bool false, .int .u8 0, .int .i64 0, .int .i64 0, .int .i64 0, .int .i64 0, .int .u8 0] 27 (0, 0)) (by (with_reducible repeat (first | refine kN ?_ _ | refine kD ?_ | refine kA ?_ _)); exact BK537.out) hb); have n2_ := Aside0.mk (hnb542); have n3_ := Aside0.mk ((Nat.le_trans (below_size (by repeat (first | (with_reducible first | exact HB.out | apply kL | apply kM | apply kE | refine kS ?_ GE537.out) | exact HB.out))) hnl542 : w.heap.size ≤ gb542)); have n4_ := Aside0.mk ((Nat.le_trans (below_size (by repeat (first | (with_reducible first | exact HB.out | apply kL | apply kM | apply kE | refine kS ?_ GE537.out) | exact HB.out))) hnl542 : w.heap.size ≤ gb542)); have n5_ := Aside0.mk ((Nat.ne_of_lt (Nat.lt_of_lt_of_le (blk_lt (g := gb537) (o := .cells #[.int .u8 0, .int .i64 0, .int .i64 0, .int .i64 0, .int .i64 0, .int .u8 0, .int .i64 0, .int .i64 0, .bool false, .bool false, .int .u8 0, .int .i64 0, .int .i64 0, .int .i64 0, .int .i64 0, .int .u8 0] 27 (0, 0)) (by (with_reducible repeat (first | refine kN ?_ _ | refine kD ?_ | refine kA ?_ _)); exact BK537.out)) hnl542) : gb537 ≠ gb542)); have n6_ := Aside0.mk ((Nat.ne_of_gt (Nat.lt_of_lt_of_le (blk_lt (g := gb537) (o := .cells #[.int .u8 0, .int .i64 0, .int .i64 0, .int .i64 0, .int .i64 0, .int .u8 0, .int .i64 0, .int .i64 0, .bool false, .bool false, .int .u8 0, .int .i64 0, .int .i64 0, .int .i64 0, .int .i64 0, .int .u8 0] 27 (0, 0)) (by (with_reducible repeat (first | refine kN ?_ _ | refine kD ?_ | refine kA ?_ _)); exact BK537.out)) hnl542) : gb542 ≠ gb537)); have n7_ := Aside0.mk (below_step (by repeat (first | (with_reducible first | exact HB.out | apply kL | apply kM | apply kE | refine kS ?_ GE537.out) | exact HB.out)) hb); clear BK537; clear HB; have HO540 := n0_; have BK537 := n1_; have BK542 := n2_; have GW542 := n3_; have GE542 := n4_; have NB537_542 := n5_; have NB542_537 := n6_; have HB := n7_; clear n0_ n1_ n2_ n3_ n4_ n5_ n6_ n7_; (try clear hb); (try clear hb2); (try clear hk); (try clear hi); (try clear ho0)) | ((with_reducible refine gate_callee (f := 32) rfl ?_); refine goesL_ (some 9) rfl rfl Try.func32 (by kernel_rfl) rfl #[.pointer (some ⟨gb542, 0, none⟩), .int .i64 1, .int .i64 10] rfl (by (try simp only [List.map_toArray, List.map_cons, List.map_nil]); first | done | rfl | (simp only [List.length_drop, List.length_take]; rfl)) ?_; (with_reducible refine (pack_Box_Get.calls k gb542 (fun k_ => some k_ = (v539 : Value).ownBlock) v539 t538 t541 1 10 t543 t544 t547 w _ ?side1 ?side2 ?side3 ?side4 A3.out).mono ?_); (case side1 => repeat (first | (with_reducible first | exact HB.out | apply kL | apply kM | apply kE | refine kS ?_ GE537.out | refine kS ?_ GE542.out) | exact HB.out)); (case side2 => exact (by (with_reducible repeat (first | refine kN ?_ _ | refine kD ?_ | refine kA ?_ _)); exact BK542.out)); (case side3 => exact GE542.out); (case side4 => exact Kd.Q_tight rfl (Kd.Q_of_R HO540.out)); rintro e w7 ⟨v545, rfl, ho0, hi, hb, hkp⟩; refine ⟨_, rfl, ?_⟩; have n0_ := Aside0.mk (blk_kept (by (with_reducible repeat (first | refine kN ?_ _ | refine kD ?_ | refine kA ?_ _)); exact BK537.out) hkp (fun hs_ => Or.elim hs_ (fun hs_ => (fun e_ => (Kd.R_ne HO540.out BK537.out (by decide)) e_) hs_) (fun e_ => NB537_542.out e_))); have n1_ := Aside0.mk (hi); have n2_ := Aside0.mk (Kd.Q_mono (ok' := fun k_ => True) ho0 (fun k_ hk_ => trivial)); have n3_ := Aside0.mk (hb); clear BK537; clear BK542; clear HB; clear HO540; have BK537 := n0_; have BK542 := n1_; have HO546 := n2_; have HB := n3_; clear n0_ n1_ n2_ n3_; (try clear hb); (try clear hkp); (try clear hi); (try clear ho0)) | ((with_reducible refine gate_dst (N := 5) rfl ?_); refine box_event ?hg (N := 5) ?hd (cs := #[.int .u8 0, .int .i64 0, .int .i64 0, .int .i64 0, .int .i64 0, .int .u8 0, .int .i64 0, .int .i64 0, .bool false, .bool false, .int .u8 0, .int .i64 0, .int .i64 0, .int .i64 0, .int .i64 0, .int .u8 0]) (t := 27) ?hr ?_; (case hd => rfl); (case hg => rfl); (case hr => first | (go_simp; done) | (go_simp; rfl)); intro gb548 hg w8 hbox hb; have n0_ := Aside0.mk (Kd.Q_below (by (with_reducible repeat (first | apply Kd.Q_alloc | apply Kd.Q_drewN | apply Kd.Q_drew)); exact HO546.out) hb); have n1_ := Aside0.mk (blk_below (g := gb537) (o := .cells #[.int .u8 0, .int .i64 0, .int .i64 0, .int .i64 0, .int .i64 0, .int .u8 0, .int .i64 0, .int .i64 0, .bool false, .bool false, .int .u8 0, .int .i64 0, .int .i64 0, .int .i64 0, .int .i64 0, .int .u8 0] 27 (0, 0)) (by (with_reducible repeat (first | refine kN ?_ _ | refine kD ?_ | refine kA ?_ _)); exact BK537.out) hb); have n2_ := Aside0.mk (blk_below (g := gb542) (o := .cells #[v545, .int .i64 t547] 60 (0, 0)) (by (with_reducible repeat (first | refine kN ?_ _ | refine kD ?_ | refine kA ?_ _)); exact BK542.out) hb); have n3_ := Aside0.mk (below_step (by repeat (first | (with_reducible first | exact HB.out | apply kL | apply kM | apply kE | refine kS ?_ GE537.out | refine kS ?_ GE542.out) | exact HB.out)) hb); have n4_ := Aside0.mk (hbox); have n5_ := Aside0.mk ((by rw [hg]; exact (below_size (by repeat (first | (with_reducible first | exact HB.out | apply kL | apply kM | apply kE | refine kS ?_ GE537.out | refine kS ?_ GE542.out) | exact HB.out))) : w.heap.size ≤ gb548)); have n6_ := Aside0.mk ((by rw [hg]; exact (below_size (by repeat (first | (with_reducible first | exact HB.out | apply kL | apply kM | apply kE | refine kS ?_ GE537.out | refine kS ?_ GE542.out) | exact HB.out))) : w.heap.size ≤ gb548)); have n7_ := Aside0.mk ((by rw [hg]; exact Nat.ne_of_lt (blk_lt (g := gb537) (o := .cells #[.int .u8 0, .int .i64 0, .int .i64 0, .int .i64 0, .int .i64 0, .int .u8 0, .int .i64 0, .int .i64 0, .bool false, .bool false, .int .u8 0, .int .i64 0, .int .i64 0, .int .i64 0, .int .i64 0, .int .u8 0] 27 (0, 0)) (by (with_reducible repeat (first | refine kN ?_ _ | refine kD ?_ | refine kA ?_ _)); exact BK537.out)) : gb537 ≠ gb548)); have n8_ := Aside0.mk ((by rw [hg]; exact Nat.ne_of_gt (blk_lt (g := gb537) (o := .cells #[.int .u8 0, .int .i64 0, .int .i64 0, .int .i64 0, .int .i64 0, .int .u8 0, .int .i64 0, .int .i64 0, .bool false, .bool false, .int .u8 0, .int .i64 0, .int .i64 0, .int .i64 0, .int .i64 0, .int .u8 0] 27 (0, 0)) (by (with_reducible repeat (first | refine kN ?_ _ | refine kD ?_ | refine kA ?_ _)); exact BK537.out)) : gb548 ≠ gb537)); have n9_ := Aside0.mk ((by rw [hg]; exact Nat.ne_of_lt (blk_lt (g := gb542) (o := .cells #[v545, .int .i64 t547] 60 (0, 0)) (by (with_reducible repeat (first | refine kN ?_ _ | refine kD ?_ | refine kA ?_ _)); exact BK542.out)) : gb542 ≠ gb548)); have n10_ := Aside0.mk ((by rw [hg]; exact Nat.ne_of_gt (blk_lt (g := gb542) (o := .cells #[v545, .int .i64 t547] 60 (0, 0)) (by (with_reducible repeat (first | refine kN ?_ _ | refine kD ?_ | refine kA ?_ _)); exact BK542.out)) : gb548 ≠ gb542)); clear HO546; clear BK537; clear BK542; clear HB; have HO546 := n0_; have BK537 := n1_; have BK542 := n2_; have HB := n3_; have BK548 := n4_; have GW548 := n5_; have GE548 := n6_; have NB537_548 := n7_; have NB548_537 := n8_; have NB542_548 := n9_; have NB548_542 := n10_; clear n0_ n1_ n2_ n3_ n4_ n5_ n6_ n7_ n8_ n9_ n10_; clear hb hbox hg; have hnb9 := NB548_537.out; have hnc9 := NB537_548.out; have hnb10 := NB548_542.out; have hnc10 := NB542_548.out; obtain ⟨hcz11_0, hcz11_1, hcz11_2, hcz11_3, hcz11_4, hcz11_5, hcz11_6, hcz11_7, hcz11_8, hcz11_9, hcz11_10, hcz11_11, hcz11_12, hcz11_13, hcz11_14, hcz11_15, hfz11_0, hfz11_1, hfz11_2, hfz11_3, hfz11_4, hfz11_5, hfz11_6, hfz11_7, hfz11_8, hfz11_9, hfz11_10, hfz11_11, hfz11_12, hfz11_13, hfz11_14, hfz11_15⟩ := bxc16 BK548.out) | ((with_reducible refine gate_store (t := 27) (p := 5) rfl ?_); refine store_event (t := 27) (p := 5) (v := ?vo_w12) (w1 := ((((((((((((((((w8.setCell ⟨gb548, 0, none⟩ (.int .u8 ((t543) % 256))).setCell ⟨gb548, 1, none⟩ (.int .i64 0)).setCell ⟨gb548, 2, none⟩ (.int .i64 0)).setCell ⟨gb548, 3, none⟩ (.int .i64 0)).setCell ⟨gb548, 4, none⟩ (.int .i64 0)).setCell ⟨gb548, 5, none⟩ (.int .u8 0)).setCell ⟨gb548, 6, none⟩ (.int .i64 0)).setCell ⟨gb548, 7, none⟩ (.int .i64 0)).setCell ⟨gb548, 8, none⟩ (.bool false)).setCell ⟨gb548, 9, none⟩ (.bool false)).setCell ⟨gb548, 10, none⟩ (.int .u8 0)).setCell ⟨gb548, 11, none⟩ (.int .i64 0)).setCell ⟨gb548, 12, none⟩ (.int .i64 0)).setCell ⟨gb548, 13, none⟩ (.int .i64 0)).setCell ⟨gb548, 14, none⟩ (.int .i64 0)).setCell ⟨gb548, 15, none⟩ (.int .u8 0))) ?hg ?ho ?hn ?hr ?_; (case ho => rfl); (case hg => rfl); (case hn => rfl); (case hr => first | exact Eq.trans (store_run (cells := #[.int .u8 ((t543) % 256), .int .i64 0, .int .i64 0, .int .i64 0, .int .i64 0, .int .u8 0, .int .i64 0, .int .i64 0, .bool false, .bool false, .int .u8 0, .int .i64 0, .int .i64 0, .int .i64 0, .int .i64 0, .int .u8 0]) #[.int .u8 0, .int .i64 0, .int .i64 0, .int .i64 0, .int .i64 0, .int .u8 0, .int .i64 0, .int .i64 0, .bool false, .bool false, .int .u8 0, .int .i64 0, .int .i64 0, .int .i64 0, .int .i64 0, .int .u8 0] (by rfl) (by rfl) (by rfl) (BK548.out) (Nat.le_refl 16) (by kernel_rfl) (by kernel_rfl)) (by rfl) | (go_simp; done) | (go_simp; rfl)); intro w12 hw; have n0_ : Aside0 (Kd.Q (Kd.int .u8) 5 w12 w.heap.size (fun _ => True) v545 t544) := ⟨(by rw [hw]; exact (by (with_reducible repeat (first | apply Kd.Q_alloc | apply Kd.Q_drewN | apply Kd.Q_drew)); exact Kd.Q_mono (Kd.Q_far (p := ⟨gb548, 15, none⟩) (Kd.Q_far (p := ⟨gb548, 14, none⟩) (Kd.Q_far (p := ⟨gb548, 13, none⟩) (Kd.Q_far (p := ⟨gb548, 12, none⟩) (Kd.Q_far (p := ⟨gb548, 11, none⟩) (Kd.Q_far (p := ⟨gb548, 10, none⟩) (Kd.Q_far (p := ⟨gb548, 9, none⟩) (Kd.Q_far (p := ⟨gb548, 8, none⟩) (Kd.Q_far (p := ⟨gb548, 7, none⟩) (Kd.Q_far (p := ⟨gb548, 6, none⟩) (Kd.Q_far (p := ⟨gb548, 5, none⟩) (Kd.Q_far (p := ⟨gb548, 4, none⟩) (Kd.Q_far (p := ⟨gb548, 3, none⟩) (Kd.Q_far (p := ⟨gb548, 2, none⟩) (Kd.Q_far (p := ⟨gb548, 1, none⟩) (Kd.Q_far (p := ⟨gb548, 0, none⟩) (Kd.Q_types HO546.out BK548.out (by decide)) (fun _ hk => hk.2) (.int .u8 ((t543) % 256))) (fun _ hk => hk.2) (.int .i64 0)) (fun _ hk => hk.2) (.int .i64 0)) (fun _ hk => hk.2) (.int .i64 0)) (fun _ hk => hk.2) (.int .i64 0)) (fun _ hk => hk.2) (.int .u8 0)) (fun _ hk => hk.2) (.int .i64 0)) (fun _ hk => hk.2) (.int .i64 0)) (fun _ hk => hk.2) (.bool false)) (fun _ hk => hk.2) (.bool false)) (fun _ hk => hk.2) (.int .u8 0)) (fun _ hk => hk.2) (.int .i64 0)) (fun _ hk => hk.2) (.int .i64 0)) (fun _ hk => hk.2) (.int .i64 0)) (fun _ hk => hk.2) (.int .i64 0)) (fun _ hk => hk.2) (.int .u8 0)) (fun _ hk => trivial)))⟩; have n1_ : Aside0 (w12.heap[gb537]? = some (.cells #[.int .u8 0, .int .i64 0, .int .i64 0, .int .i64 0, .int .i64 0, .int .u8 0, .int .i64 0, .int .i64 0, .bool false, .bool false, .int .u8 0, .int .i64 0, .int .i64 0, .int .i64 0, .int .i64 0, .int .u8 0] 27 (0, 0))) := ⟨(by rw [hw]; exact (by (with_reducible repeat (first | refine kN ?_ _ | refine kD ?_ | refine kA ?_ _ | refine kR ?_ NB537_548.out _)); (with_reducible repeat (first | refine kN ?_ _ | refine kD ?_ | refine kA ?_ _)); exact BK537.out))⟩; have n2_ : Aside0 (w12.heap[gb542]? = some (.cells #[v545, .int .i64 t547] 60 (0, 0))) := ⟨(by rw [hw]; exact (by (with_reducible repeat (first | refine kN ?_ _ | refine kD ?_ | refine kA ?_ _)); refine kR ?_ NB542_548.out _; (with_reducible repeat (first | refine kN ?_ _ | refine kD ?_ | refine kA ?_ _)); refine kR ?_ NB542_548.out _; (with_reducible repeat (first | refine kN ?_ _ | refine kD ?_ | refine kA ?_ _)); refine kR ?_ NB542_548.out _; (with_reducible repeat (first | refine kN ?_ _ | refine kD ?_ | refine kA ?_ _)); refine kR ?_ NB542_548.out _; (with_reducible repeat (first | refine kN ?_ _ | refine kD ?_ | refine kA ?_ _)); refine kR ?_ NB542_548.out _; (with_reducible repeat (first | refine kN ?_ _ | refine kD ?_ | refine kA ?_ _)); refine kR ?_ NB542_548.out _; (with_reducible repeat (first | refine kN ?_ _ | refine kD ?_ | refine kA ?_ _)); refine kR ?_ NB542_548.out _; (with_reducible repeat (first | refine kN ?_ _ | refine kD ?_ | refine kA ?_ _)); refine kR ?_ NB542_548.out _; (with_reducible repeat (first | refine kN ?_ _ | refine kD ?_ | refine kA ?_ _)); refine kR ?_ NB542_548.out _; (with_reducible repeat (first | refine kN ?_ _ | refine kD ?_ | refine kA ?_ _)); refine kR ?_ NB542_548.out _; (with_reducible repeat (first | refine kN ?_ _ | refine kD ?_ | refine kA ?_ _)); refine kR ?_ NB542_548.out _; (with_reducible repeat (first | refine kN ?_ _ | refine kD ?_ | refine kA ?_ _)); refine kR ?_ NB542_548.out _; (with_reducible repeat (first | refine kN ?_ _ | refine kD ?_ | refine kA ?_ _)); refine kR ?_ NB542_548.out _; (with_reducible repeat (first | refine kN ?_ _ | refine kD ?_ | refine kA ?_ _)); refine kR ?_ NB542_548.out _; (with_reducible repeat (first | refine kN ?_ _ | refine kD ?_ | refine kA ?_ _)); refine kR ?_ NB542_548.out _; (with_reducible repeat (first | refine kN ?_ _ | refine kD ?_ | refine kA ?_ _)); refine kR ?_ NB542_548.out _; (with_reducible repeat (first | refine kN ?_ _ | refine kD ?_ | refine kA ?_ _)); exact BK542.out))⟩; have n3_ : Aside0 (w12.heap[gb548]? = some (.cells #[.int .u8 ((t543) % 256), .int .i64 0, .int .i64 0, .int .i64 0, .int .i64 0, .int .u8 0, .int .i64 0, .int .i64 0, .bool false, .bool false, .int .u8 0, .int .i64 0, .int .i64 0, .int .i64 0, .int .i64 0, .int .u8 0] 27 (0, 0))) := ⟨(by rw [hw]; exact (by (with_reducible repeat (first | refine kN ?_ _ | refine kD ?_ | refine kA ?_ _)); refine bxw16 (.int .u8 0) (.int .i64 0) (.int .i64 0) (.int .i64 0) (.int .i64 0) (.int .u8 0) (.int .i64 0) (.int .i64 0) (.bool false) (.bool false) (.int .u8 0) (.int .i64 0) (.int .i64 0) (.int .i64 0) (.int .i64 0) (.int .u8 0) ?_; (with_reducible repeat (first | refine kN ?_ _ | refine kD ?_ | refine kA ?_ _)); exact BK548.out))⟩; have n4_ : Aside0 (Below w.heap.size w w12) := ⟨(by rw [hw]; exact (by repeat (first | (with_reducible first | exact HB.out | apply kL | apply kM | apply kE | refine kS ?_ GE537.out | refine kS ?_ GE542.out | refine kS ?_ GE548.out) | exact HB.out)))⟩; clear hw; clear HO546; clear BK537; clear BK542; clear BK548; clear HB; have HO546 := n0_; have BK537 := n1_; have BK542 := n2_; have BK548 := n3_; have HB := n4_; clear n0_ n1_ n2_ n3_ n4_))
 (try simp only [Act.put, List.setIfInBounds_toArray, List.set_cons_zero, List.set_cons_succ])
 go_cut [] (fun wc => ∃ (kq : Nat) (x543000_3 : List Int) (x543001_3 : Int) (x549001_3 : Int) (x549002_3 : Int) (x549003_3 : Int) (x549004_3 : Int) (x549005_3 : Int) (x549006_3 : Int) (x549007_3 : Int) (x549008_3 : Bool) (x549009_3 : Bool) (x549010_3 : Int) (x549011_3 : Int) (x549012_3 : Int) (x549013_3 : Int) (x549014_3 : Int) (x549015_3 : Int) (u543000 : Value), Aside0 (order_Decode.j0 kq x543000_3 x543001_3 ((t543) % 256) x549001_3 x549002_3 x549003_3 x549004_3 x549005_3 x549006_3 x549007_3 x549008_3 x549009_3 x549010_3 x549011_3 x549012_3 x549013_3 x549014_3 x549015_3 = some (r1, r2, r3, r4, r5, r6, r7, r8, r9, r10, r11, r12, r13, r14, r15, r16, r17)) ∧ Aside0 (kq ≤ k) ∧ Aside0 (Kd.Q (Kd.int .u8) 5 wc w.heap.size (fun _ => True) u543000 x543000_3) ∧ Aside0 (wc.heap[gb537]? = some (.cells #[.int .u8 0, .int .i64 0, .int .i64 0, .int .i64 0, .int .i64 0, .int .u8 0, .int .i64 0, .int .i64 0, .bool false, .bool false, .int .u8 0, .int .i64 0, .int .i64 0, .int .i64 0, .int .i64 0, .int .u8 0] 27 (0, 0))) ∧ Aside0 (wc.heap[gb542]? = some (.cells #[u543000, .int .i64 x543001_3] 60 (0, 0))) ∧ Aside0 (wc.heap[gb548]? = some (.cells #[.int .u8 ((t543) % 256), .int .i64 x549001_3, .int .i64 x549002_3, .int .i64 x549003_3, .int .i64 x549004_3, .int .u8 x549005_3, .int .i64 x549006_3, .int .i64 x549007_3, .bool x549008_3, .bool x549009_3, .int .u8 x549010_3, .int .i64 x549011_3, .int .i64 x549012_3, .int .i64 x549013_3, .int .i64 x549014_3, .int .u8 x549015_3] 27 (0, 0))) ∧ Aside0 (Below w.heap.size w wc))
 case first =>
  have H := HC4.out
  clear HC4
  replace H := Option.bind_eq_some_iff.mp H
  obtain ⟨t549, A130, H⟩ := H
  replace H : (if t549 = true then ((pack_Box_Get.f k t544 t547 0 31).bind fun bt550 => ((order_plans.f ((t543) % 256)).bind fun t555 => (if t555 = true then ((pack_Box_Get.f k bt550.2.1 bt550.2.2 0 7).bind fun bt556 => (order_Decode.j0 k bt556.2.1 bt556.2.2 ((t543) % 256) bt550.1 bt556.1 0 0 0 0 0 false false 0 0 0 0 0 0)) else (order_Decode.j0 k bt550.2.1 bt550.2.2 ((t543) % 256) bt550.1 0 0 0 0 0 0 false false 0 0 0 0 0 0)))) else (if ((t543) % 256) = 1 then ((plan_Get.f k t544 t547).bind fun bt561 => (order_Decode.j0 k bt561.2.2.2.2.2.2.1 bt561.2.2.2.2.2.2.2 ((t543) % 256) 0 0 0 bt561.1 bt561.2.1 bt561.2.2.1 bt561.2.2.2.1 bt561.2.2.2.2.1 bt561.2.2.2.2.2.1 0 0 0 0 0 0)) else (if ((t543) % 256) = 9 then ((pack_Box_Get.f k t544 t547 1 60).bind fun bt571 => (order_Decode.j0 k bt571.2.1 bt571.2.2 ((t543) % 256) 0 0 bt571.1 0 0 0 0 false false 0 0 0 0 0 0)) else (if ((t543) % 256) = 10 then ((order_Get.f k t544 t547).bind fun bt576 => (order_Decode.j0 k bt576.2.2.2.2.2.2.1 bt576.2.2.2.2.2.2.2 ((t543) % 256) 0 0 0 0 0 0 0 false false bt576.1 bt576.2.1 bt576.2.2.1 bt576.2.2.2.1 bt576.2.2.2.2.1 bt576.2.2.2.2.2.1)) else (order_Decode.j0 k t544 t547 ((t543) % 256) 0 0 0 0 0 0 0 false false 0 0 0 0 0 0))))) = some (r1, r2, r3, r4, r5, r6, r7, r8, r9, r10, r11, r12, r13, r14, r15, r16, r17) := H
  have A13 := Aside0.mk A130
  clear A130
  by_cases c14 : t549 = true
  ·subst c14
   have H1 : ((pack_Box_Get.f k t544 t547 0 31).bind fun bt550 => ((order_plans.f ((t543) % 256)).bind fun t555 => (if t555 = true then ((pack_Box_Get.f k bt550.2.1 bt550.2.2 0 7).bind fun bt556 => (order_Decode.j0 k bt556.2.1 bt556.2.2 ((t543) % 256) bt550.1 bt556.1 0 0 0 0 0 false false 0 0 0 0 0 0)) else (order_Decode.j0 k bt550.2.1 bt550.2.2 ((t543) % 256) bt550.1 0 0 0 0 0 0 false false 0 0 0 0 0 0)))) = some (r1, r2, r3, r4, r5, r6, r7, r8, r9, r10, r11, r12, r13, r14, r15, r16, r17) := by rw [if_pos rfl] at H; try exact H
   clear H
   have H := H1
   clear H1
   replace H := Option.bind_eq_some_iff.mp H
   obtain ⟨⟨t550, t551, t554⟩, A150, H⟩ := H
   replace H : ((order_plans.f ((t543) % 256)).bind fun t555 => (if t555 = true then ((pack_Box_Get.f k t551 t554 0 7).bind fun bt556 => (order_Decode.j0 k bt556.2.1 bt556.2.2 ((t543) % 256) t550 bt556.1 0 0 0 0 0 false false 0 0 0 0 0 0)) else (order_Decode.j0 k t551 t554 ((t543) % 256) t550 0 0 0 0 0 0 false false 0 0 0 0 0 0))) = some (r1, r2, r3, r4, r5, r6, r7, r8, r9, r10, r11, r12, r13, r14, r15, r16, r17) := H
   have A15 := Aside0.mk A150
   clear A150
   replace H := Option.bind_eq_some_iff.mp H
   obtain ⟨t555, A160, H⟩ := H
   replace H : (if t555 = true then ((pack_Box_Get.f k t551 t554 0 7).bind fun bt556 => (order_Decode.j0 k bt556.2.1 bt556.2.2 ((t543) % 256) t550 bt556.1 0 0 0 0 0 false false 0 0 0 0 0 0)) else (order_Decode.j0 k t551 t554 ((t543) % 256) t550 0 0 0 0 0 0 false false 0 0 0 0 0 0)) = some (r1, r2, r3, r4, r5, r6, r7, r8, r9, r10, r11, r12, r13, r14, r15, r16, r17) := H
   have A16 := Aside0.mk A160
   clear A160
   by_cases c17 : t555 = true
   ·subst c17
    have H1 : ((pack_Box_Get.f k t551 t554 0 7).bind fun bt556 => (order_Decode.j0 k bt556.2.1 bt556.2.2 ((t543) % 256) t550 bt556.1 0 0 0 0 0 false false 0 0 0 0 0 0)) = some (r1, r2, r3, r4, r5, r6, r7, r8, r9, r10, r11, r12, r13, r14, r15, r16, r17) := by rw [if_pos rfl] at H; try exact H
    clear H
    have H := H1
    clear H1
    replace H := Option.bind_eq_some_iff.mp H
    obtain ⟨⟨t556, t557, t560⟩, A180, H⟩ := H
    replace H : (order_Decode.j0 k t557 t560 ((t543) % 256) t550 t556 0 0 0 0 0 false false 0 0 0 0 0 0) = some (r1, r2, r3, r4, r5, r6, r7, r8, r9, r10, r11, r12, r13, r14, r15, r16, r17) := H
    have A18 := Aside0.mk A180
    clear A180
    have H' := Aside0.mk H
    clear H
    have hnb19 := NB548_537.out
    have hnc19 := NB537_548.out
    have hnb20 := NB548_542.out
    have hnc20 := NB542_548.out
    obtain ⟨hcz21_0, hcz21_1, hcz21_2, hcz21_3, hcz21_4, hcz21_5, hcz21_6, hcz21_7, hcz21_8, hcz21_9, hcz21_10, hcz21_11, hcz21_12, hcz21_13, hcz21_14, hcz21_15, hfz21_0, hfz21_1, hfz21_2, hfz21_3, hfz21_4, hfz21_5, hfz21_6, hfz21_7, hfz21_8, hfz21_9, hfz21_10, hfz21_11, hfz21_12, hfz21_13, hfz21_14, hfz21_15⟩ := bxc16 BK548.out
    go_wp2_with (first | ((with_reducible refine gate_callee (f := 26) rfl ?_); refine goesL_ (some 15) rfl rfl Try.func26 (by kernel_rfl) rfl #[.int .u8 ((t543) % 256)] rfl (by (try simp only [List.map_toArray, List.map_cons, List.map_nil]); first | done | rfl | (simp only [List.length_drop, List.length_take]; rfl)) ?_; (with_reducible refine (order_subs.calls ((t543) % 256) true _ A13.out).mono ?_); rintro e w' ⟨rfl, ⟨nd, rfl⟩⟩; refine ⟨_, rfl, ?_⟩; (try (rw [drewN_self w12]; generalize hq_ : World.drewN w12 _ = w12; have n0_ : Aside0 (Kd.Q (Kd.int .u8) 5 w12 w.heap.size (fun _ => True) v545 t544) := ⟨by rw [← hq_]; exact (by (with_reducible repeat (first | apply Kd.Q_alloc | apply Kd.Q_drewN | apply Kd.Q_drew)); exact HO546.out)⟩; have n1_ : Aside0 (w12.heap[gb537]? = some (.cells #[.int .u8 0, .int .i64 0, .int .i64 0, .int .i64 0, .int .i64 0, .int .u8 0, .int .i64 0, .int .i64 0, .bool false, .bool false, .int .u8 0, .int .i64 0, .int .i64 0, .int .i64 0, .int .i64 0, .int .u8 0] 27 (0, 0))) := ⟨by rw [← hq_]; exact (by (with_reducible repeat (first | refine kN ?_ _ | refine kD ?_ | refine kA ?_ _)); exact BK537.out)⟩; have n2_ : Aside0 (w12.heap[gb542]? = some (.cells #[v545, .int .i64 t547] 60 (0, 0))) := ⟨by rw [← hq_]; exact (by (with_reducible repeat (first | refine kN ?_ _ | refine kD ?_ | refine kA ?_ _)); exact BK542.out)⟩; have n3_ : Aside0 (w12.heap[gb548]? = some (.cells #[.int .u8 ((t543) % 256), .int .i64 0, .int .i64 0, .int .i64 0, .int .i64 0, .int .u8 0, .int .i64 0, .int .i64 0, .bool false, .bool false, .int .u8 0, .int .i64 0, .int .i64 0, .int .i64 0, .int .i64 0, .int .u8 0] 27 (0, 0))) := ⟨by rw [← hq_]; exact (by (with_reducible repeat (first | refine kN ?_ _ | refine kD ?_ | refine kA ?_ _)); exact BK548.out)⟩; have n4_ : Aside0 (Below w.heap.size w w12) := ⟨by rw [← hq_]; exact (by repeat (first | (with_reducible first | exact HB.out | apply kL | apply kM | apply kE | refine kS ?_ GE537.out | refine kS ?_ GE542.out | refine kS ?_ GE548.out) | exact HB.out))⟩; clear HO546 BK537 BK542 BK548 HB hq_; have HO546 := n0_; have BK537 := n1_; have BK542 := n2_; have BK548 := n3_; have HB := n4_; clear n0_ n1_ n2_ n3_ n4_))) | ((with_reducible refine gate_callee (f := 32) rfl ?_); refine goesL_ (some 17) rfl rfl Try.func32 (by kernel_rfl) rfl #[.pointer (some ⟨gb542, 0, none⟩), .int .i64 0, .int .i64 31] rfl (by (try simp only [List.map_toArray, List.map_cons, List.map_nil]); first | done | rfl | (simp only [List.length_drop, List.length_take]; rfl)) ?_; (with_reducible refine (pack_Box_Get.calls k gb542 (fun k_ => some k_ = (v545 : Value).ownBlock) v545 t544 t547 0 31 t550 t551 t554 w _ ?side1 ?side2 ?side3 ?side4 A15.out).mono ?_); (case side1 => repeat (first | (with_reducible first | exact HB.out | apply kL | apply kM | apply kE | refine kS ?_ GE537.out | refine kS ?_ GE542.out | refine kS ?_ GE548.out) | exact HB.out)); (case side2 => exact (by (with_reducible repeat (first | refine kN ?_ _ | refine kD ?_ | refine kA ?_ _)); exact BK542.out)); (case side3 => exact GE542.out); (case side4 => exact Kd.Q_tight rfl HO546.out); rintro e w22 ⟨v552, rfl, ho0, hi, hb, hkp⟩; refine ⟨_, rfl, ?_⟩; have n0_ := Aside0.mk (blk_kept (by (with_reducible repeat (first | refine kN ?_ _ | refine kD ?_ | refine kA ?_ _)); exact BK537.out) hkp (fun hs_ => Or.elim hs_ (fun hs_ => (fun e_ => (Kd.Q_ne HO546.out BK537.out (by decide)) e_) hs_) (fun e_ => NB537_542.out e_))); have n1_ := Aside0.mk (hi); have n2_ := Aside0.mk (blk_kept (by (with_reducible repeat (first | refine kN ?_ _ | refine kD ?_ | refine kA ?_ _)); exact BK548.out) hkp (fun hs_ => Or.elim hs_ (fun hs_ => (fun e_ => (Kd.Q_ne HO546.out BK548.out (by decide)) e_) hs_) (fun e_ => NB548_542.out e_))); have n3_ := Aside0.mk (Kd.Q_mono (ok' := fun k_ => True) ho0 (fun k_ hk_ => trivial)); have n4_ := Aside0.mk (hb); clear BK537; clear BK542; clear BK548; clear HB; clear HO546; have BK537 := n0_; have BK542 := n1_; have BK548 := n2_; have HO553 := n3_; have HB := n4_; clear n0_ n1_ n2_ n3_ n4_; (try clear hb); (try clear hkp); (try clear hi); (try clear ho0); obtain ⟨hcz23_0, hcz23_1, hcz23_2, hcz23_3, hcz23_4, hcz23_5, hcz23_6, hcz23_7, hcz23_8, hcz23_9, hcz23_10, hcz23_11, hcz23_12, hcz23_13, hcz23_14, hcz23_15, hfz23_0, hfz23_1, hfz23_2, hfz23_3, hfz23_4, hfz23_5, hfz23_6, hfz23_7, hfz23_8, hfz23_9, hfz23_10, hfz23_11, hfz23_12, hfz23_13, hfz23_14, hfz23_15⟩ := bxc16 BK548.out) | ((with_reducible refine gate_store (t := 3) (p := 18) rfl ?_); refine store_event (t := 3) (p := 18) (v := ?vo_w24) (w1 := (w22.setCell ⟨gb548, 1, none⟩ (.int .i64 t550))) ?hg ?ho ?hn ?hr ?_; (case ho => rfl); (case hg => rfl); (case hn => rfl); (case hr => first | (go_simp; done) | (go_simp; rfl)); intro w24 hw; have n0_ : Aside0 (Kd.Q (Kd.int .u8) 5 w24 w.heap.size (fun _ => True) v552 t551) := ⟨(by rw [hw]; exact (by (with_reducible repeat (first | apply Kd.Q_alloc | apply Kd.Q_drewN | apply Kd.Q_drew)); exact Kd.Q_mono (Kd.Q_far (p := ⟨gb548, 1, none⟩) (Kd.Q_types HO553.out BK548.out (by decide)) (fun _ hk => hk.2) (.int .i64 t550)) (fun _ hk => trivial)))⟩; have n1_ : Aside0 (w24.heap[gb537]? = some (.cells #[.int .u8 0, .int .i64 0, .int .i64 0, .int .i64 0, .int .i64 0, .int .u8 0, .int .i64 0, .int .i64 0, .bool false, .bool false, .int .u8 0, .int .i64 0, .int .i64 0, .int .i64 0, .int .i64 0, .int .u8 0] 27 (0, 0))) := ⟨(by rw [hw]; exact (by (with_reducible repeat (first | refine kN ?_ _ | refine kD ?_ | refine kA ?_ _ | refine kR ?_ NB537_548.out _)); (with_reducible repeat (first | refine kN ?_ _ | refine kD ?_ | refine kA ?_ _)); exact BK537.out))⟩; have n2_ : Aside0 (w24.heap[gb542]? = some (.cells #[v552, .int .i64 t554] 60 (0, 0))) := ⟨(by rw [hw]; exact (by (with_reducible repeat (first | refine kN ?_ _ | refine kD ?_ | refine kA ?_ _)); refine kR ?_ NB542_548.out _; (with_reducible repeat (first | refine kN ?_ _ | refine kD ?_ | refine kA ?_ _)); exact BK542.out))⟩; have n3_ : Aside0 (w24.heap[gb548]? = some (.cells #[.int .u8 ((t543) % 256), .int .i64 t550, .int .i64 0, .int .i64 0, .int .i64 0, .int .u8 0, .int .i64 0, .int .i64 0, .bool false, .bool false, .int .u8 0, .int .i64 0, .int .i64 0, .int .i64 0, .int .i64 0, .int .u8 0] 27 (0, 0))) := ⟨(by rw [hw]; exact (by (with_reducible repeat (first | refine kN ?_ _ | refine kD ?_ | refine kA ?_ _)); refine bxp16_1 (o := .int .i64 0) ?_; (with_reducible repeat (first | refine kN ?_ _ | refine kD ?_ | refine kA ?_ _)); exact BK548.out))⟩; have n4_ : Aside0 (Below w.heap.size w w24) := ⟨(by rw [hw]; exact (by repeat (first | (with_reducible first | exact HB.out | apply kL | apply kM | apply kE | refine kS ?_ GE537.out | refine kS ?_ GE542.out | refine kS ?_ GE548.out) | exact HB.out)))⟩; clear hw; clear HO553; clear BK537; clear BK542; clear BK548; clear HB; have HO553 := n0_; have BK537 := n1_; have BK542 := n2_; have BK548 := n3_; have HB := n4_; clear n0_ n1_ n2_ n3_ n4_; obtain ⟨hcz25_0, hcz25_1, hcz25_2, hcz25_3, hcz25_4, hcz25_5, hcz25_6, hcz25_7, hcz25_8, hcz25_9, hcz25_10, hcz25_11, hcz25_12, hcz25_13, hcz25_14, hcz25_15, hfz25_0, hfz25_1, hfz25_2, hfz25_3, hfz25_4, hfz25_5, hfz25_6, hfz25_7, hfz25_8, hfz25_9, hfz25_10, hfz25_11, hfz25_12, hfz25_13, hfz25_14, hfz25_15⟩ := bxc16 BK548.out) | ((with_reducible refine gate_callee (f := 27) rfl ?_); refine goesL_ (some 21) rfl rfl Try.func27 (by kernel_rfl) rfl #[.int .u8 ((t543) % 256)] rfl (by (try simp only [List.map_toArray, List.map_cons, List.map_nil]); first | done | rfl | (simp only [List.length_drop, List.length_take]; rfl)) ?_; (with_reducible refine (order_plans.calls ((t543) % 256) true _ A16.out).mono ?_); rintro e w' ⟨rfl, ⟨nd, rfl⟩⟩; refine ⟨_, rfl, ?_⟩; (try (rw [drewN_self w24]; generalize hq_ : World.drewN w24 _ = w24; have n0_ : Aside0 (Kd.Q (Kd.int .u8) 5 w24 w.heap.size (fun _ => True) v552 t551) := ⟨by rw [← hq_]; exact (by (with_reducible repeat (first | apply Kd.Q_alloc | apply Kd.Q_drewN | apply Kd.Q_drew)); exact HO553.out)⟩; have n1_ : Aside0 (w24.heap[gb537]? = some (.cells #[.int .u8 0, .int .i64 0, .int .i64 0, .int .i64 0, .int .i64 0, .int .u8 0, .int .i64 0, .int .i64 0, .bool false, .bool false, .int .u8 0, .int .i64 0, .int .i64 0, .int .i64 0, .int .i64 0, .int .u8 0] 27 (0, 0))) := ⟨by rw [← hq_]; exact (by (with_reducible repeat (first | refine kN ?_ _ | refine kD ?_ | refine kA ?_ _)); exact BK537.out)⟩; have n2_ : Aside0 (w24.heap[gb542]? = some (.cells #[v552, .int .i64 t554] 60 (0, 0))) := ⟨by rw [← hq_]; exact (by (with_reducible repeat (first | refine kN ?_ _ | refine kD ?_ | refine kA ?_ _)); exact BK542.out)⟩; have n3_ : Aside0 (w24.heap[gb548]? = some (.cells #[.int .u8 ((t543) % 256), .int .i64 t550, .int .i64 0, .int .i64 0, .int .i64 0, .int .u8 0, .int .i64 0, .int .i64 0, .bool false, .bool false, .int .u8 0, .int .i64 0, .int .i64 0, .int .i64 0, .int .i64 0, .int .u8 0] 27 (0, 0))) := ⟨by rw [← hq_]; exact (by (with_reducible repeat (first | refine kN ?_ _ | refine kD ?_ | refine kA ?_ _)); exact BK548.out)⟩; have n4_ : Aside0 (Below w.heap.size w w24) := ⟨by rw [← hq_]; exact (by repeat (first | (with_reducible first | exact HB.out | apply kL | apply kM | apply kE | refine kS ?_ GE537.out | refine kS ?_ GE542.out | refine kS ?_ GE548.out) | exact HB.out))⟩; clear HO553 BK537 BK542 BK548 HB hq_; have HO553 := n0_; have BK537 := n1_; have BK542 := n2_; have BK548 := n3_; have HB := n4_; clear n0_ n1_ n2_ n3_ n4_))) | ((with_reducible refine gate_callee (f := 32) rfl ?_); refine goesL_ (some 23) rfl rfl Try.func32 (by kernel_rfl) rfl #[.pointer (some ⟨gb542, 0, none⟩), .int .i64 0, .int .i64 7] rfl (by (try simp only [List.map_toArray, List.map_cons, List.map_nil]); first | done | rfl | (simp only [List.length_drop, List.length_take]; rfl)) ?_; (with_reducible refine (pack_Box_Get.calls k gb542 (fun k_ => some k_ = (v552 : Value).ownBlock) v552 t551 t554 0 7 t556 t557 t560 w _ ?side1 ?side2 ?side3 ?side4 A18.out).mono ?_); (case side1 => repeat (first | (with_reducible first | exact HB.out | apply kL | apply kM | apply kE | refine kS ?_ GE537.out | refine kS ?_ GE542.out | refine kS ?_ GE548.out) | exact HB.out)); (case side2 => exact (by (with_reducible repeat (first | refine kN ?_ _ | refine kD ?_ | refine kA ?_ _)); exact BK542.out)); (case side3 => exact GE542.out); (case side4 => exact Kd.Q_tight rfl HO553.out); rintro e w26 ⟨v558, rfl, ho0, hi, hb, hkp⟩; refine ⟨_, rfl, ?_⟩; have n0_ := Aside0.mk (blk_kept (by (with_reducible repeat (first | refine kN ?_ _ | refine kD ?_ | refine kA ?_ _)); exact BK537.out) hkp (fun hs_ => Or.elim hs_ (fun hs_ => (fun e_ => (Kd.Q_ne HO553.out BK537.out (by decide)) e_) hs_) (fun e_ => NB537_542.out e_))); have n1_ := Aside0.mk (hi); have n2_ := Aside0.mk (blk_kept (by (with_reducible repeat (first | refine kN ?_ _ | refine kD ?_ | refine kA ?_ _)); exact BK548.out) hkp (fun hs_ => Or.elim hs_ (fun hs_ => (fun e_ => (Kd.Q_ne HO553.out BK548.out (by decide)) e_) hs_) (fun e_ => NB548_542.out e_))); have n3_ := Aside0.mk (Kd.Q_mono (ok' := fun k_ => True) ho0 (fun k_ hk_ => trivial)); have n4_ := Aside0.mk (hb); clear BK537; clear BK542; clear BK548; clear HB; clear HO553; have BK537 := n0_; have BK542 := n1_; have BK548 := n2_; have HO559 := n3_; have HB := n4_; clear n0_ n1_ n2_ n3_ n4_; (try clear hb); (try clear hkp); (try clear hi); (try clear ho0); obtain ⟨hcz27_0, hcz27_1, hcz27_2, hcz27_3, hcz27_4, hcz27_5, hcz27_6, hcz27_7, hcz27_8, hcz27_9, hcz27_10, hcz27_11, hcz27_12, hcz27_13, hcz27_14, hcz27_15, hfz27_0, hfz27_1, hfz27_2, hfz27_3, hfz27_4, hfz27_5, hfz27_6, hfz27_7, hfz27_8, hfz27_9, hfz27_10, hfz27_11, hfz27_12, hfz27_13, hfz27_14, hfz27_15⟩ := bxc16 BK548.out))
    go_meet
    case rel => exact ⟨_, (t557), (t560), (t550), (t556), (0), (0), (0), (0), (0), (false), (false), (0), (0), (0), (0), (0), (0), (v558), (by first | (with_reducible exact H') | (simp only [*]; with_reducible exact H') | exact H'), ⟨by first | omega | exact Nat.le_refl _⟩, ⟨by (with_reducible repeat (first | apply Kd.Q_alloc | apply Kd.Q_drewN | apply Kd.Q_drew)); exact Kd.Q_mono (Kd.Q_far (p := ⟨gb548, 2, none⟩) (Kd.Q_types HO559.out BK548.out (by decide)) (fun _ hk => hk.2) (.int .i64 t556)) (fun _ hk => trivial)⟩, ⟨by (with_reducible repeat (first | refine kN ?_ _ | refine kD ?_ | refine kA ?_ _ | refine kR ?_ NB537_548.out _)); (with_reducible repeat (first | refine kN ?_ _ | refine kD ?_ | refine kA ?_ _)); exact BK537.out⟩, ⟨by (with_reducible repeat (first | refine kN ?_ _ | refine kD ?_ | refine kA ?_ _)); refine kR ?_ NB542_548.out _; (with_reducible repeat (first | refine kN ?_ _ | refine kD ?_ | refine kA ?_ _)); exact BK542.out⟩, ⟨by (with_reducible repeat (first | refine kN ?_ _ | refine kD ?_ | refine kA ?_ _)); refine bxp16_2 (o := .int .i64 0) ?_; (with_reducible repeat (first | refine kN ?_ _ | refine kD ?_ | refine kA ?_ _)); exact BK548.out⟩, ⟨by repeat (first | (with_reducible first | exact HB.out | apply kL | apply kM | apply kE | refine kS ?_ GE537.out | refine kS ?_ GE542.out | refine kS ?_ GE548.out) | exact HB.out)⟩⟩
   ·replace c17 := Bool.eq_false_iff.mpr c17
    subst c17
    have H1 : (order_Decode.j0 k t551 t554 ((t543) % 256) t550 0 0 0 0 0 0 false false 0 0 0 0 0 0) = some (r1, r2, r3, r4, r5, r6, r7, r8, r9, r10, r11, r12, r13, r14, r15, r16, r17) := by rw [if_neg (show ¬ (false = true) by decide)] at H; try exact H
    clear H
    have H := H1
    clear H1
    have H' := Aside0.mk H
    clear H
    have hnb28 := NB548_537.out
    have hnc28 := NB537_548.out
    have hnb29 := NB548_542.out
    have hnc29 := NB542_548.out
    obtain ⟨hcz30_0, hcz30_1, hcz30_2, hcz30_3, hcz30_4, hcz30_5, hcz30_6, hcz30_7, hcz30_8, hcz30_9, hcz30_10, hcz30_11, hcz30_12, hcz30_13, hcz30_14, hcz30_15, hfz30_0, hfz30_1, hfz30_2, hfz30_3, hfz30_4, hfz30_5, hfz30_6, hfz30_7, hfz30_8, hfz30_9, hfz30_10, hfz30_11, hfz30_12, hfz30_13, hfz30_14, hfz30_15⟩ := bxc16 BK548.out
    go_wp2_with (first | ((with_reducible refine gate_callee (f := 26) rfl ?_); refine goesL_ (some 15) rfl rfl Try.func26 (by kernel_rfl) rfl #[.int .u8 ((t543) % 256)] rfl (by (try simp only [List.map_toArray, List.map_cons, List.map_nil]); first | done | rfl | (simp only [List.length_drop, List.length_take]; rfl)) ?_; (with_reducible refine (order_subs.calls ((t543) % 256) true _ A13.out).mono ?_); rintro e w' ⟨rfl, ⟨nd, rfl⟩⟩; refine ⟨_, rfl, ?_⟩; (try (rw [drewN_self w12]; generalize hq_ : World.drewN w12 _ = w12; have n0_ : Aside0 (Kd.Q (Kd.int .u8) 5 w12 w.heap.size (fun _ => True) v545 t544) := ⟨by rw [← hq_]; exact (by (with_reducible repeat (first | apply Kd.Q_alloc | apply Kd.Q_drewN | apply Kd.Q_drew)); exact HO546.out)⟩; have n1_ : Aside0 (w12.heap[gb537]? = some (.cells #[.int .u8 0, .int .i64 0, .int .i64 0, .int .i64 0, .int .i64 0, .int .u8 0, .int .i64 0, .int .i64 0, .bool false, .bool false, .int .u8 0, .int .i64 0, .int .i64 0, .int .i64 0, .int .i64 0, .int .u8 0] 27 (0, 0))) := ⟨by rw [← hq_]; exact (by (with_reducible repeat (first | refine kN ?_ _ | refine kD ?_ | refine kA ?_ _)); exact BK537.out)⟩; have n2_ : Aside0 (w12.heap[gb542]? = some (.cells #[v545, .int .i64 t547] 60 (0, 0))) := ⟨by rw [← hq_]; exact (by (with_reducible repeat (first | refine kN ?_ _ | refine kD ?_ | refine kA ?_ _)); exact BK542.out)⟩; have n3_ : Aside0 (w12.heap[gb548]? = some (.cells #[.int .u8 ((t543) % 256), .int .i64 0, .int .i64 0, .int .i64 0, .int .i64 0, .int .u8 0, .int .i64 0, .int .i64 0, .bool false, .bool false, .int .u8 0, .int .i64 0, .int .i64 0, .int .i64 0, .int .i64 0, .int .u8 0] 27 (0, 0))) := ⟨by rw [← hq_]; exact (by (with_reducible repeat (first | refine kN ?_ _ | refine kD ?_ | refine kA ?_ _)); exact BK548.out)⟩; have n4_ : Aside0 (Below w.heap.size w w12) := ⟨by rw [← hq_]; exact (by repeat (first | (with_reducible first | exact HB.out | apply kL | apply kM | apply kE | refine kS ?_ GE537.out | refine kS ?_ GE542.out | refine kS ?_ GE548.out) | exact HB.out))⟩; clear HO546 BK537 BK542 BK548 HB hq_; have HO546 := n0_; have BK537 := n1_; have BK542 := n2_; have BK548 := n3_; have HB := n4_; clear n0_ n1_ n2_ n3_ n4_))) | ((with_reducible refine gate_callee (f := 32) rfl ?_); refine goesL_ (some 17) rfl rfl Try.func32 (by kernel_rfl) rfl #[.pointer (some ⟨gb542, 0, none⟩), .int .i64 0, .int .i64 31] rfl (by (try simp only [List.map_toArray, List.map_cons, List.map_nil]); first | done | rfl | (simp only [List.length_drop, List.length_take]; rfl)) ?_; (with_reducible refine (pack_Box_Get.calls k gb542 (fun k_ => some k_ = (v545 : Value).ownBlock) v545 t544 t547 0 31 t550 t551 t554 w _ ?side1 ?side2 ?side3 ?side4 A15.out).mono ?_); (case side1 => repeat (first | (with_reducible first | exact HB.out | apply kL | apply kM | apply kE | refine kS ?_ GE537.out | refine kS ?_ GE542.out | refine kS ?_ GE548.out) | exact HB.out)); (case side2 => exact (by (with_reducible repeat (first | refine kN ?_ _ | refine kD ?_ | refine kA ?_ _)); exact BK542.out)); (case side3 => exact GE542.out); (case side4 => exact Kd.Q_tight rfl HO546.out); rintro e w31 ⟨v552, rfl, ho0, hi, hb, hkp⟩; refine ⟨_, rfl, ?_⟩; have n0_ := Aside0.mk (blk_kept (by (with_reducible repeat (first | refine kN ?_ _ | refine kD ?_ | refine kA ?_ _)); exact BK537.out) hkp (fun hs_ => Or.elim hs_ (fun hs_ => (fun e_ => (Kd.Q_ne HO546.out BK537.out (by decide)) e_) hs_) (fun e_ => NB537_542.out e_))); have n1_ := Aside0.mk (hi); have n2_ := Aside0.mk (blk_kept (by (with_reducible repeat (first | refine kN ?_ _ | refine kD ?_ | refine kA ?_ _)); exact BK548.out) hkp (fun hs_ => Or.elim hs_ (fun hs_ => (fun e_ => (Kd.Q_ne HO546.out BK548.out (by decide)) e_) hs_) (fun e_ => NB548_542.out e_))); have n3_ := Aside0.mk (Kd.Q_mono (ok' := fun k_ => True) ho0 (fun k_ hk_ => trivial)); have n4_ := Aside0.mk (hb); clear BK537; clear BK542; clear BK548; clear HB; clear HO546; have BK537 := n0_; have BK542 := n1_; have BK548 := n2_; have HO553 := n3_; have HB := n4_; clear n0_ n1_ n2_ n3_ n4_; (try clear hb); (try clear hkp); (try clear hi); (try clear ho0); obtain ⟨hcz32_0, hcz32_1, hcz32_2, hcz32_3, hcz32_4, hcz32_5, hcz32_6, hcz32_7, hcz32_8, hcz32_9, hcz32_10, hcz32_11, hcz32_12, hcz32_13, hcz32_14, hcz32_15, hfz32_0, hfz32_1, hfz32_2, hfz32_3, hfz32_4, hfz32_5, hfz32_6, hfz32_7, hfz32_8, hfz32_9, hfz32_10, hfz32_11, hfz32_12, hfz32_13, hfz32_14, hfz32_15⟩ := bxc16 BK548.out) | ((with_reducible refine gate_callee (f := 27) rfl ?_); refine goesL_ (some 21) rfl rfl Try.func27 (by kernel_rfl) rfl #[.int .u8 ((t543) % 256)] rfl (by (try simp only [List.map_toArray, List.map_cons, List.map_nil]); first | done | rfl | (simp only [List.length_drop, List.length_take]; rfl)) ?_; (with_reducible refine (order_plans.calls ((t543) % 256) false _ A16.out).mono ?_); rintro e w' ⟨rfl, ⟨nd, rfl⟩⟩; refine ⟨_, rfl, ?_⟩))
    go_meet
    case rel => exact ⟨_, (t551), (t554), (t550), (0), (0), (0), (0), (0), (0), (false), (false), (0), (0), (0), (0), (0), (0), (v552), (by first | (with_reducible exact H') | (simp only [*]; with_reducible exact H') | exact H'), ⟨by first | omega | exact Nat.le_refl _⟩, ⟨by (with_reducible repeat (first | apply Kd.Q_alloc | apply Kd.Q_drewN | apply Kd.Q_drew)); exact Kd.Q_mono (Kd.Q_far (p := ⟨gb548, 1, none⟩) (Kd.Q_types HO553.out BK548.out (by decide)) (fun _ hk => hk.2) (.int .i64 t550)) (fun _ hk => trivial)⟩, ⟨by (with_reducible repeat (first | refine kN ?_ _ | refine kD ?_ | refine kA ?_ _ | refine kR ?_ NB537_548.out _)); (with_reducible repeat (first | refine kN ?_ _ | refine kD ?_ | refine kA ?_ _)); exact BK537.out⟩, ⟨by (with_reducible repeat (first | refine kN ?_ _ | refine kD ?_ | refine kA ?_ _)); refine kR ?_ NB542_548.out _; (with_reducible repeat (first | refine kN ?_ _ | refine kD ?_ | refine kA ?_ _)); exact BK542.out⟩, ⟨by (with_reducible repeat (first | refine kN ?_ _ | refine kD ?_ | refine kA ?_ _)); refine bxp16_1 (o := .int .i64 0) ?_; (with_reducible repeat (first | refine kN ?_ _ | refine kD ?_ | refine kA ?_ _)); exact BK548.out⟩, ⟨by repeat (first | (with_reducible first | exact HB.out | apply kL | apply kM | apply kE | refine kS ?_ GE537.out | refine kS ?_ GE542.out | refine kS ?_ GE548.out) | exact HB.out)⟩⟩
  ·replace c14 := Bool.eq_false_iff.mpr c14
   subst c14
   have H1 : (if ((t543) % 256) = 1 then ((plan_Get.f k t544 t547).bind fun bt561 => (order_Decode.j0 k bt561.2.2.2.2.2.2.1 bt561.2.2.2.2.2.2.2 ((t543) % 256) 0 0 0 bt561.1 bt561.2.1 bt561.2.2.1 bt561.2.2.2.1 bt561.2.2.2.2.1 bt561.2.2.2.2.2.1 0 0 0 0 0 0)) else (if ((t543) % 256) = 9 then ((pack_Box_Get.f k t544 t547 1 60).bind fun bt571 => (order_Decode.j0 k bt571.2.1 bt571.2.2 ((t543) % 256) 0 0 bt571.1 0 0 0 0 false false 0 0 0 0 0 0)) else (if ((t543) % 256) = 10 then ((order_Get.f k t544 t547).bind fun bt576 => (order_Decode.j0 k bt576.2.2.2.2.2.2.1 bt576.2.2.2.2.2.2.2 ((t543) % 256) 0 0 0 0 0 0 0 false false bt576.1 bt576.2.1 bt576.2.2.1 bt576.2.2.2.1 bt576.2.2.2.2.1 bt576.2.2.2.2.2.1)) else (order_Decode.j0 k t544 t547 ((t543) % 256) 0 0 0 0 0 0 0 false false 0 0 0 0 0 0)))) = some (r1, r2, r3, r4, r5, r6, r7, r8, r9, r10, r11, r12, r13, r14, r15, r16, r17) := by rw [if_neg (show ¬ (false = true) by decide)] at H; try exact H
   clear H
   have H := H1
   clear H1
   by_cases c33 : ((t543) % 256) = 1
   ·rw [if_pos c33] at H
    have c33b0 : (((t543) % 256) == 1) = true := beq_iff_eq.mpr c33
    have c33b1 : (((t543) % 256) != 1) = false := bne_eq_false_iff_eq.mpr c33
    clear c33
    (first | (generalize hg_ : (((t543) % 256) == 1) = bg_ at *; subst c33b0; have c33b0 := hg_; clear hg_) | rw [c33b0] | (simp only [i64_w, i32_w]; rw [c33b0]) | skip)
    replace H := Option.bind_eq_some_iff.mp H
    obtain ⟨⟨t561, t562, t563, t564, t565, t566, t567, t570⟩, A340, H⟩ := H
    replace H : (order_Decode.j0 k t567 t570 ((t543) % 256) 0 0 0 t561 t562 t563 t564 t565 t566 0 0 0 0 0 0) = some (r1, r2, r3, r4, r5, r6, r7, r8, r9, r10, r11, r12, r13, r14, r15, r16, r17) := H
    have A34 := Aside0.mk A340
    clear A340
    have H' := Aside0.mk H
    clear H
    have hnb35 := NB548_537.out
    have hnc35 := NB537_548.out
    have hnb36 := NB548_542.out
    have hnc36 := NB542_548.out
    obtain ⟨hcz37_0, hcz37_1, hcz37_2, hcz37_3, hcz37_4, hcz37_5, hcz37_6, hcz37_7, hcz37_8, hcz37_9, hcz37_10, hcz37_11, hcz37_12, hcz37_13, hcz37_14, hcz37_15, hfz37_0, hfz37_1, hfz37_2, hfz37_3, hfz37_4, hfz37_5, hfz37_6, hfz37_7, hfz37_8, hfz37_9, hfz37_10, hfz37_11, hfz37_12, hfz37_13, hfz37_14, hfz37_15⟩ := bxc16 BK548.out
    go_wp2_with (first | ((with_reducible refine gate_callee (f := 26) rfl ?_); refine goesL_ (some 15) rfl rfl Try.func26 (by kernel_rfl) rfl #[.int .u8 ((t543) % 256)] rfl (by (try simp only [List.map_toArray, List.map_cons, List.map_nil]); first | done | rfl | (simp only [List.length_drop, List.length_take]; rfl)) ?_; (with_reducible refine (order_subs.calls ((t543) % 256) false _ A13.out).mono ?_); rintro e w' ⟨rfl, ⟨nd, rfl⟩⟩; refine ⟨_, rfl, ?_⟩; (try (rw [drewN_self w12]; generalize hq_ : World.drewN w12 _ = w12; have n0_ : Aside0 (Kd.Q (Kd.int .u8) 5 w12 w.heap.size (fun _ => True) v545 t544) := ⟨by rw [← hq_]; exact (by (with_reducible repeat (first | apply Kd.Q_alloc | apply Kd.Q_drewN | apply Kd.Q_drew)); exact HO546.out)⟩; have n1_ : Aside0 (w12.heap[gb537]? = some (.cells #[.int .u8 0, .int .i64 0, .int .i64 0, .int .i64 0, .int .i64 0, .int .u8 0, .int .i64 0, .int .i64 0, .bool false, .bool false, .int .u8 0, .int .i64 0, .int .i64 0, .int .i64 0, .int .i64 0, .int .u8 0] 27 (0, 0))) := ⟨by rw [← hq_]; exact (by (with_reducible repeat (first | refine kN ?_ _ | refine kD ?_ | refine kA ?_ _)); exact BK537.out)⟩; have n2_ : Aside0 (w12.heap[gb542]? = some (.cells #[v545, .int .i64 t547] 60 (0, 0))) := ⟨by rw [← hq_]; exact (by (with_reducible repeat (first | refine kN ?_ _ | refine kD ?_ | refine kA ?_ _)); exact BK542.out)⟩; have n3_ : Aside0 (w12.heap[gb548]? = some (.cells #[.int .u8 ((t543) % 256), .int .i64 0, .int .i64 0, .int .i64 0, .int .i64 0, .int .u8 0, .int .i64 0, .int .i64 0, .bool false, .bool false, .int .u8 0, .int .i64 0, .int .i64 0, .int .i64 0, .int .i64 0, .int .u8 0] 27 (0, 0))) := ⟨by rw [← hq_]; exact (by (with_reducible repeat (first | refine kN ?_ _ | refine kD ?_ | refine kA ?_ _)); exact BK548.out)⟩; have n4_ : Aside0 (Below w.heap.size w w12) := ⟨by rw [← hq_]; exact (by repeat (first | (with_reducible first | exact HB.out | apply kL | apply kM | apply kE | refine kS ?_ GE537.out | refine kS ?_ GE542.out | refine kS ?_ GE548.out) | exact HB.out))⟩; clear HO546 BK537 BK542 BK548 HB hq_; have HO546 := n0_; have BK537 := n1_; have BK542 := n2_; have BK548 := n3_; have HB := n4_; clear n0_ n1_ n2_ n3_ n4_)); obtain ⟨hcz38_0, hcz38_1, hcz38_2, hcz38_3, hcz38_4, hcz38_5, hcz38_6, hcz38_7, hcz38_8, hcz38_9, hcz38_10, hcz38_11, hcz38_12, hcz38_13, hcz38_14, hcz38_15, hfz38_0, hfz38_1, hfz38_2, hfz38_3, hfz38_4, hfz38_5, hfz38_6, hfz38_7, hfz38_8, hfz38_9, hfz38_10, hfz38_11, hfz38_12, hfz38_13, hfz38_14, hfz38_15⟩ := bxc16 BK548.out) | ((with_reducible refine gate_callee (f := 33) rfl ?_); refine goesL_ (some 30) rfl rfl Try.func33 (by kernel_rfl) rfl #[.pointer (some ⟨gb542, 0, none⟩)] rfl (by (try simp only [List.map_toArray, List.map_cons, List.map_nil]); first | done | rfl | (simp only [List.length_drop, List.length_take]; rfl)) ?_; (with_reducible refine (plan_Get.calls k gb542 (fun k_ => some k_ = (v545 : Value).ownBlock) v545 t544 t547 t561 t562 t563 t564 t565 t566 t567 t570 w _ ?side1 ?side2 ?side3 ?side4 A34.out).mono ?_); (case side1 => repeat (first | (with_reducible first | exact HB.out | apply kL | apply kM | apply kE | refine kS ?_ GE537.out | refine kS ?_ GE542.out | refine kS ?_ GE548.out) | exact HB.out)); (case side2 => exact (by (with_reducible repeat (first | refine kN ?_ _ | refine kD ?_ | refine kA ?_ _)); exact BK542.out)); (case side3 => exact GE542.out); (case side4 => exact Kd.Q_tight rfl HO546.out); rintro e w39 ⟨v568, rfl, ho0, hi, hb, hkp⟩; refine ⟨_, rfl, ?_⟩; have n0_ := Aside0.mk (blk_kept (by (with_reducible repeat (first | refine kN ?_ _ | refine kD ?_ | refine kA ?_ _)); exact BK537.out) hkp (fun hs_ => Or.elim hs_ (fun hs_ => (fun e_ => (Kd.Q_ne HO546.out BK537.out (by decide)) e_) hs_) (fun e_ => NB537_542.out e_))); have n1_ := Aside0.mk (hi); have n2_ := Aside0.mk (blk_kept (by (with_reducible repeat (first | refine kN ?_ _ | refine kD ?_ | refine kA ?_ _)); exact BK548.out) hkp (fun hs_ => Or.elim hs_ (fun hs_ => (fun e_ => (Kd.Q_ne HO546.out BK548.out (by decide)) e_) hs_) (fun e_ => NB548_542.out e_))); have n3_ := Aside0.mk (Kd.Q_mono (ok' := fun k_ => True) ho0 (fun k_ hk_ => trivial)); have n4_ := Aside0.mk (hb); clear BK537; clear BK542; clear BK548; clear HB; clear HO546; have BK537 := n0_; have BK542 := n1_; have BK548 := n2_; have HO569 := n3_; have HB := n4_; clear n0_ n1_ n2_ n3_ n4_; (try clear hb); (try clear hkp); (try clear hi); (try clear ho0); obtain ⟨hcz40_0, hcz40_1, hcz40_2, hcz40_3, hcz40_4, hcz40_5, hcz40_6, hcz40_7, hcz40_8, hcz40_9, hcz40_10, hcz40_11, hcz40_12, hcz40_13, hcz40_14, hcz40_15, hfz40_0, hfz40_1, hfz40_2, hfz40_3, hfz40_4, hfz40_5, hfz40_6, hfz40_7, hfz40_8, hfz40_9, hfz40_10, hfz40_11, hfz40_12, hfz40_13, hfz40_14, hfz40_15⟩ := bxc16 BK548.out))
    go_meet
    case rel => exact ⟨_, (t567), (t570), (0), (0), (0), (t561), (t562), (t563), (t564), (t565), (t566), (0), (0), (0), (0), (0), (0), (v568), (by first | (with_reducible exact H') | (simp only [*]; with_reducible exact H') | exact H'), ⟨by first | omega | exact Nat.le_refl _⟩, ⟨by (with_reducible repeat (first | apply Kd.Q_alloc | apply Kd.Q_drewN | apply Kd.Q_drew)); exact Kd.Q_mono (Kd.Q_far (p := ⟨gb548, 9, none⟩) (Kd.Q_far (p := ⟨gb548, 8, none⟩) (Kd.Q_far (p := ⟨gb548, 7, none⟩) (Kd.Q_far (p := ⟨gb548, 6, none⟩) (Kd.Q_far (p := ⟨gb548, 5, none⟩) (Kd.Q_far (p := ⟨gb548, 4, none⟩) (Kd.Q_types HO569.out BK548.out (by decide)) (fun _ hk => hk.2) (.int .i64 t561)) (fun _ hk => hk.2) (.int .u8 t562)) (fun _ hk => hk.2) (.int .i64 t563)) (fun _ hk => hk.2) (.int .i64 t564)) (fun _ hk => hk.2) (.bool t565)) (fun _ hk => hk.2) (.bool t566)) (fun _ hk => trivial)⟩, ⟨by (with_reducible repeat (first | refine kN ?_ _ | refine kD ?_ | refine kA ?_ _ | refine kR ?_ NB537_548.out _)); (with_reducible repeat (first | refine kN ?_ _ | refine kD ?_ | refine kA ?_ _)); exact BK537.out⟩, ⟨by (with_reducible repeat (first | refine kN ?_ _ | refine kD ?_ | refine kA ?_ _)); refine kR ?_ NB542_548.out _; (with_reducible repeat (first | refine kN ?_ _ | refine kD ?_ | refine kA ?_ _)); refine kR ?_ NB542_548.out _; (with_reducible repeat (first | refine kN ?_ _ | refine kD ?_ | refine kA ?_ _)); refine kR ?_ NB542_548.out _; (with_reducible repeat (first | refine kN ?_ _ | refine kD ?_ | refine kA ?_ _)); refine kR ?_ NB542_548.out _; (with_reducible repeat (first | refine kN ?_ _ | refine kD ?_ | refine kA ?_ _)); refine kR ?_ NB542_548.out _; (with_reducible repeat (first | refine kN ?_ _ | refine kD ?_ | refine kA ?_ _)); refine kR ?_ NB542_548.out _; (with_reducible repeat (first | refine kN ?_ _ | refine kD ?_ | refine kA ?_ _)); exact BK542.out⟩, ⟨by (with_reducible repeat (first | refine kN ?_ _ | refine kD ?_ | refine kA ?_ _)); refine bxp16_9 (o := .bool false) ?_; (with_reducible repeat (first | refine kN ?_ _ | refine kD ?_ | refine kA ?_ _)); refine bxp16_8 (o := .bool false) ?_; (with_reducible repeat (first | refine kN ?_ _ | refine kD ?_ | refine kA ?_ _)); refine bxp16_7 (o := .int .i64 0) ?_; (with_reducible repeat (first | refine kN ?_ _ | refine kD ?_ | refine kA ?_ _)); refine bxp16_6 (o := .int .i64 0) ?_; (with_reducible repeat (first | refine kN ?_ _ | refine kD ?_ | refine kA ?_ _)); refine bxp16_5 (o := .int .u8 0) ?_; (with_reducible repeat (first | refine kN ?_ _ | refine kD ?_ | refine kA ?_ _)); refine bxp16_4 (o := .int .i64 0) ?_; (with_reducible repeat (first | refine kN ?_ _ | refine kD ?_ | refine kA ?_ _)); exact BK548.out⟩, ⟨by repeat (first | (with_reducible first | exact HB.out | apply kL | apply kM | apply kE | refine kS ?_ GE537.out | refine kS ?_ GE542.out | refine kS ?_ GE548.out) | exact HB.out)⟩⟩
   ·rw [if_neg c33] at H
    have c33b0 : (((t543) % 256) == 1) = false := beq_eq_false_iff_ne.mpr c33
    have c33b1 : (((t543) % 256) != 1) = true := bne_iff_ne.mpr c33
    (first | (generalize hg_ : (((t543) % 256) == 1) = bg_ at *; subst c33b0; have c33b0 := hg_; clear hg_) | rw [c33b0] | (simp only [i64_w, i32_w]; rw [c33b0]) | skip)
    by_cases c41 : ((t543) % 256) = 9
    ·rw [if_pos c41] at H
     have c41b0 : (((t543) % 256) == 9) = true := beq_iff_eq.mpr c41
     have c41b1 : (((t543) % 256) != 9) = false := bne_eq_false_iff_eq.mpr c41
     clear c41
     replace H := Option.bind_eq_some_iff.mp H
     obtain ⟨⟨t571, t572, t575⟩, A420, H⟩ := H
     replace H : (order_Decode.j0 k t572 t575 ((t543) % 256) 0 0 t571 0 0 0 0 false false 0 0 0 0 0 0) = some (r1, r2, r3, r4, r5, r6, r7, r8, r9, r10, r11, r12, r13, r14, r15, r16, r17) := H
     have A42 := Aside0.mk A420
     clear A420
     have H' := Aside0.mk H
     clear H
     have hnb43 := NB548_537.out
     have hnc43 := NB537_548.out
     have hnb44 := NB548_542.out
     have hnc44 := NB542_548.out
     obtain ⟨hcz45_0, hcz45_1, hcz45_2, hcz45_3, hcz45_4, hcz45_5, hcz45_6, hcz45_7, hcz45_8, hcz45_9, hcz45_10, hcz45_11, hcz45_12, hcz45_13, hcz45_14, hcz45_15, hfz45_0, hfz45_1, hfz45_2, hfz45_3, hfz45_4, hfz45_5, hfz45_6, hfz45_7, hfz45_8, hfz45_9, hfz45_10, hfz45_11, hfz45_12, hfz45_13, hfz45_14, hfz45_15⟩ := bxc16 BK548.out
     go_wp2_with (first | ((with_reducible refine gate_callee (f := 26) rfl ?_); refine goesL_ (some 15) rfl rfl Try.func26 (by kernel_rfl) rfl #[.int .u8 ((t543) % 256)] rfl (by (try simp only [List.map_toArray, List.map_cons, List.map_nil]); first | done | rfl | (simp only [List.length_drop, List.length_take]; rfl)) ?_; (with_reducible refine (order_subs.calls ((t543) % 256) false _ A13.out).mono ?_); rintro e w' ⟨rfl, ⟨nd, rfl⟩⟩; refine ⟨_, rfl, ?_⟩; (try (rw [drewN_self w12]; generalize hq_ : World.drewN w12 _ = w12; have n0_ : Aside0 (Kd.Q (Kd.int .u8) 5 w12 w.heap.size (fun _ => True) v545 t544) := ⟨by rw [← hq_]; exact (by (with_reducible repeat (first | apply Kd.Q_alloc | apply Kd.Q_drewN | apply Kd.Q_drew)); exact HO546.out)⟩; have n1_ : Aside0 (w12.heap[gb537]? = some (.cells #[.int .u8 0, .int .i64 0, .int .i64 0, .int .i64 0, .int .i64 0, .int .u8 0, .int .i64 0, .int .i64 0, .bool false, .bool false, .int .u8 0, .int .i64 0, .int .i64 0, .int .i64 0, .int .i64 0, .int .u8 0] 27 (0, 0))) := ⟨by rw [← hq_]; exact (by (with_reducible repeat (first | refine kN ?_ _ | refine kD ?_ | refine kA ?_ _)); exact BK537.out)⟩; have n2_ : Aside0 (w12.heap[gb542]? = some (.cells #[v545, .int .i64 t547] 60 (0, 0))) := ⟨by rw [← hq_]; exact (by (with_reducible repeat (first | refine kN ?_ _ | refine kD ?_ | refine kA ?_ _)); exact BK542.out)⟩; have n3_ : Aside0 (w12.heap[gb548]? = some (.cells #[.int .u8 ((t543) % 256), .int .i64 0, .int .i64 0, .int .i64 0, .int .i64 0, .int .u8 0, .int .i64 0, .int .i64 0, .bool false, .bool false, .int .u8 0, .int .i64 0, .int .i64 0, .int .i64 0, .int .i64 0, .int .u8 0] 27 (0, 0))) := ⟨by rw [← hq_]; exact (by (with_reducible repeat (first | refine kN ?_ _ | refine kD ?_ | refine kA ?_ _)); exact BK548.out)⟩; have n4_ : Aside0 (Below w.heap.size w w12) := ⟨by rw [← hq_]; exact (by repeat (first | (with_reducible first | exact HB.out | apply kL | apply kM | apply kE | refine kS ?_ GE537.out | refine kS ?_ GE542.out | refine kS ?_ GE548.out) | exact HB.out))⟩; clear HO546 BK537 BK542 BK548 HB hq_; have HO546 := n0_; have BK537 := n1_; have BK542 := n2_; have BK548 := n3_; have HB := n4_; clear n0_ n1_ n2_ n3_ n4_)); obtain ⟨hcz46_0, hcz46_1, hcz46_2, hcz46_3, hcz46_4, hcz46_5, hcz46_6, hcz46_7, hcz46_8, hcz46_9, hcz46_10, hcz46_11, hcz46_12, hcz46_13, hcz46_14, hcz46_15, hfz46_0, hfz46_1, hfz46_2, hfz46_3, hfz46_4, hfz46_5, hfz46_6, hfz46_7, hfz46_8, hfz46_9, hfz46_10, hfz46_11, hfz46_12, hfz46_13, hfz46_14, hfz46_15⟩ := bxc16 BK548.out) | ((with_reducible refine gate_callee (f := 32) rfl ?_); refine goesL_ (some 37) rfl rfl Try.func32 (by kernel_rfl) rfl #[.pointer (some ⟨gb542, 0, none⟩), .int .i64 1, .int .i64 60] rfl (by (try simp only [List.map_toArray, List.map_cons, List.map_nil]); first | done | rfl | (simp only [List.length_drop, List.length_take]; rfl)) ?_; (with_reducible refine (pack_Box_Get.calls k gb542 (fun k_ => some k_ = (v545 : Value).ownBlock) v545 t544 t547 1 60 t571 t572 t575 w _ ?side1 ?side2 ?side3 ?side4 A42.out).mono ?_); (case side1 => repeat (first | (with_reducible first | exact HB.out | apply kL | apply kM | apply kE | refine kS ?_ GE537.out | refine kS ?_ GE542.out | refine kS ?_ GE548.out) | exact HB.out)); (case side2 => exact (by (with_reducible repeat (first | refine kN ?_ _ | refine kD ?_ | refine kA ?_ _)); exact BK542.out)); (case side3 => exact GE542.out); (case side4 => exact Kd.Q_tight rfl HO546.out); rintro e w47 ⟨v573, rfl, ho0, hi, hb, hkp⟩; refine ⟨_, rfl, ?_⟩; have n0_ := Aside0.mk (blk_kept (by (with_reducible repeat (first | refine kN ?_ _ | refine kD ?_ | refine kA ?_ _)); exact BK537.out) hkp (fun hs_ => Or.elim hs_ (fun hs_ => (fun e_ => (Kd.Q_ne HO546.out BK537.out (by decide)) e_) hs_) (fun e_ => NB537_542.out e_))); have n1_ := Aside0.mk (hi); have n2_ := Aside0.mk (blk_kept (by (with_reducible repeat (first | refine kN ?_ _ | refine kD ?_ | refine kA ?_ _)); exact BK548.out) hkp (fun hs_ => Or.elim hs_ (fun hs_ => (fun e_ => (Kd.Q_ne HO546.out BK548.out (by decide)) e_) hs_) (fun e_ => NB548_542.out e_))); have n3_ := Aside0.mk (Kd.Q_mono (ok' := fun k_ => True) ho0 (fun k_ hk_ => trivial)); have n4_ := Aside0.mk (hb); clear BK537; clear BK542; clear BK548; clear HB; clear HO546; have BK537 := n0_; have BK542 := n1_; have BK548 := n2_; have HO574 := n3_; have HB := n4_; clear n0_ n1_ n2_ n3_ n4_; (try clear hb); (try clear hkp); (try clear hi); (try clear ho0); obtain ⟨hcz48_0, hcz48_1, hcz48_2, hcz48_3, hcz48_4, hcz48_5, hcz48_6, hcz48_7, hcz48_8, hcz48_9, hcz48_10, hcz48_11, hcz48_12, hcz48_13, hcz48_14, hcz48_15, hfz48_0, hfz48_1, hfz48_2, hfz48_3, hfz48_4, hfz48_5, hfz48_6, hfz48_7, hfz48_8, hfz48_9, hfz48_10, hfz48_11, hfz48_12, hfz48_13, hfz48_14, hfz48_15⟩ := bxc16 BK548.out))
     go_meet
     case rel => exact ⟨_, (t572), (t575), (0), (0), (t571), (0), (0), (0), (0), (false), (false), (0), (0), (0), (0), (0), (0), (v573), (by first | (with_reducible exact H') | (simp only [*]; with_reducible exact H') | exact H'), ⟨by first | omega | exact Nat.le_refl _⟩, ⟨by (with_reducible repeat (first | apply Kd.Q_alloc | apply Kd.Q_drewN | apply Kd.Q_drew)); exact Kd.Q_mono (Kd.Q_far (p := ⟨gb548, 3, none⟩) (Kd.Q_types HO574.out BK548.out (by decide)) (fun _ hk => hk.2) (.int .i64 t571)) (fun _ hk => trivial)⟩, ⟨by (with_reducible repeat (first | refine kN ?_ _ | refine kD ?_ | refine kA ?_ _ | refine kR ?_ NB537_548.out _)); (with_reducible repeat (first | refine kN ?_ _ | refine kD ?_ | refine kA ?_ _)); exact BK537.out⟩, ⟨by (with_reducible repeat (first | refine kN ?_ _ | refine kD ?_ | refine kA ?_ _)); refine kR ?_ NB542_548.out _; (with_reducible repeat (first | refine kN ?_ _ | refine kD ?_ | refine kA ?_ _)); exact BK542.out⟩, ⟨by (with_reducible repeat (first | refine kN ?_ _ | refine kD ?_ | refine kA ?_ _)); refine bxp16_3 (o := .int .i64 0) ?_; (with_reducible repeat (first | refine kN ?_ _ | refine kD ?_ | refine kA ?_ _)); exact BK548.out⟩, ⟨by repeat (first | (with_reducible first | exact HB.out | apply kL | apply kM | apply kE | refine kS ?_ GE537.out | refine kS ?_ GE542.out | refine kS ?_ GE548.out) | exact HB.out)⟩⟩
    ·rw [if_neg c41] at H
     have c41b0 : (((t543) % 256) == 9) = false := beq_eq_false_iff_ne.mpr c41
     have c41b1 : (((t543) % 256) != 9) = true := bne_iff_ne.mpr c41
     by_cases c49 : ((t543) % 256) = 10
     ·rw [if_pos c49] at H
      have c49b0 : (((t543) % 256) == 10) = true := beq_iff_eq.mpr c49
      have c49b1 : (((t543) % 256) != 10) = false := bne_eq_false_iff_eq.mpr c49
      clear c49
      replace H := Option.bind_eq_some_iff.mp H
      obtain ⟨⟨t576, t577, t578, t579, t580, t581, t582, t585⟩, A500, H⟩ := H
      replace H : (order_Decode.j0 k t582 t585 ((t543) % 256) 0 0 0 0 0 0 0 false false t576 t577 t578 t579 t580 t581) = some (r1, r2, r3, r4, r5, r6, r7, r8, r9, r10, r11, r12, r13, r14, r15, r16, r17) := H
      have A50 := Aside0.mk A500
      clear A500
      have H' := Aside0.mk H
      clear H
      have hnb51 := NB548_537.out
      have hnc51 := NB537_548.out
      have hnb52 := NB548_542.out
      have hnc52 := NB542_548.out
      obtain ⟨hcz53_0, hcz53_1, hcz53_2, hcz53_3, hcz53_4, hcz53_5, hcz53_6, hcz53_7, hcz53_8, hcz53_9, hcz53_10, hcz53_11, hcz53_12, hcz53_13, hcz53_14, hcz53_15, hfz53_0, hfz53_1, hfz53_2, hfz53_3, hfz53_4, hfz53_5, hfz53_6, hfz53_7, hfz53_8, hfz53_9, hfz53_10, hfz53_11, hfz53_12, hfz53_13, hfz53_14, hfz53_15⟩ := bxc16 BK548.out
      go_wp2_with (first | ((with_reducible refine gate_callee (f := 26) rfl ?_); refine goesL_ (some 15) rfl rfl Try.func26 (by kernel_rfl) rfl #[.int .u8 ((t543) % 256)] rfl (by (try simp only [List.map_toArray, List.map_cons, List.map_nil]); first | done | rfl | (simp only [List.length_drop, List.length_take]; rfl)) ?_; (with_reducible refine (order_subs.calls ((t543) % 256) false _ A13.out).mono ?_); rintro e w' ⟨rfl, ⟨nd, rfl⟩⟩; refine ⟨_, rfl, ?_⟩; (try (rw [drewN_self w12]; generalize hq_ : World.drewN w12 _ = w12; have n0_ : Aside0 (Kd.Q (Kd.int .u8) 5 w12 w.heap.size (fun _ => True) v545 t544) := ⟨by rw [← hq_]; exact (by (with_reducible repeat (first | apply Kd.Q_alloc | apply Kd.Q_drewN | apply Kd.Q_drew)); exact HO546.out)⟩; have n1_ : Aside0 (w12.heap[gb537]? = some (.cells #[.int .u8 0, .int .i64 0, .int .i64 0, .int .i64 0, .int .i64 0, .int .u8 0, .int .i64 0, .int .i64 0, .bool false, .bool false, .int .u8 0, .int .i64 0, .int .i64 0, .int .i64 0, .int .i64 0, .int .u8 0] 27 (0, 0))) := ⟨by rw [← hq_]; exact (by (with_reducible repeat (first | refine kN ?_ _ | refine kD ?_ | refine kA ?_ _)); exact BK537.out)⟩; have n2_ : Aside0 (w12.heap[gb542]? = some (.cells #[v545, .int .i64 t547] 60 (0, 0))) := ⟨by rw [← hq_]; exact (by (with_reducible repeat (first | refine kN ?_ _ | refine kD ?_ | refine kA ?_ _)); exact BK542.out)⟩; have n3_ : Aside0 (w12.heap[gb548]? = some (.cells #[.int .u8 ((t543) % 256), .int .i64 0, .int .i64 0, .int .i64 0, .int .i64 0, .int .u8 0, .int .i64 0, .int .i64 0, .bool false, .bool false, .int .u8 0, .int .i64 0, .int .i64 0, .int .i64 0, .int .i64 0, .int .u8 0] 27 (0, 0))) := ⟨by rw [← hq_]; exact (by (with_reducible repeat (first | refine kN ?_ _ | refine kD ?_ | refine kA ?_ _)); exact BK548.out)⟩; have n4_ : Aside0 (Below w.heap.size w w12) := ⟨by rw [← hq_]; exact (by repeat (first | (with_reducible first | exact HB.out | apply kL | apply kM | apply kE | refine kS ?_ GE537.out | refine kS ?_ GE542.out | refine kS ?_ GE548.out) | exact HB.out))⟩; clear HO546 BK537 BK542 BK548 HB hq_; have HO546 := n0_; have BK537 := n1_; have BK542 := n2_; have BK548 := n3_; have HB := n4_; clear n0_ n1_ n2_ n3_ n4_)); obtain ⟨hcz54_0, hcz54_1, hcz54_2, hcz54_3, hcz54_4, hcz54_5, hcz54_6, hcz54_7, hcz54_8, hcz54_9, hcz54_10, hcz54_11, hcz54_12, hcz54_13, hcz54_14, hcz54_15, hfz54_0, hfz54_1, hfz54_2, hfz54_3, hfz54_4, hfz54_5, hfz54_6, hfz54_7, hfz54_8, hfz54_9, hfz54_10, hfz54_11, hfz54_12, hfz54_13, hfz54_14, hfz54_15⟩ := bxc16 BK548.out) | ((with_reducible refine gate_callee (f := 21) rfl ?_); refine goesL_ (some 44) rfl rfl Try.func21 (by kernel_rfl) rfl #[.pointer (some ⟨gb542, 0, none⟩)] rfl (by (try simp only [List.map_toArray, List.map_cons, List.map_nil]); first | done | rfl | (simp only [List.length_drop, List.length_take]; rfl)) ?_; (with_reducible refine (order_Get.calls k gb542 (fun k_ => some k_ = (v545 : Value).ownBlock) v545 t544 t547 t576 t577 t578 t579 t580 t581 t582 t585 w _ ?side1 ?side2 ?side3 ?side4 A50.out).mono ?_); (case side1 => repeat (first | (with_reducible first | exact HB.out | apply kL | apply kM | apply kE | refine kS ?_ GE537.out | refine kS ?_ GE542.out | refine kS ?_ GE548.out) | exact HB.out)); (case side2 => exact (by (with_reducible repeat (first | refine kN ?_ _ | refine kD ?_ | refine kA ?_ _)); exact BK542.out)); (case side3 => exact GE542.out); (case side4 => exact Kd.Q_tight rfl HO546.out); rintro e w55 ⟨v583, rfl, ho0, hi, hb, hkp⟩; refine ⟨_, rfl, ?_⟩; have n0_ := Aside0.mk (blk_kept (by (with_reducible repeat (first | refine kN ?_ _ | refine kD ?_ | refine kA ?_ _)); exact BK537.out) hkp (fun hs_ => Or.elim hs_ (fun hs_ => (fun e_ => (Kd.Q_ne HO546.out BK537.out (by decide)) e_) hs_) (fun e_ => NB537_542.out e_))); have n1_ := Aside0.mk (hi); have n2_ := Aside0.mk (blk_kept (by (with_reducible repeat (first | refine kN ?_ _ | refine kD ?_ | refine kA ?_ _)); exact BK548.out) hkp (fun hs_ => Or.elim hs_ (fun hs_ => (fun e_ => (Kd.Q_ne HO546.out BK548.out (by decide)) e_) hs_) (fun e_ => NB548_542.out e_))); have n3_ := Aside0.mk (Kd.Q_mono (ok' := fun k_ => True) ho0 (fun k_ hk_ => trivial)); have n4_ := Aside0.mk (hb); clear BK537; clear BK542; clear BK548; clear HB; clear HO546; have BK537 := n0_; have BK542 := n1_; have BK548 := n2_; have HO584 := n3_; have HB := n4_; clear n0_ n1_ n2_ n3_ n4_; (try clear hb); (try clear hkp); (try clear hi); (try clear ho0); obtain ⟨hcz56_0, hcz56_1, hcz56_2, hcz56_3, hcz56_4, hcz56_5, hcz56_6, hcz56_7, hcz56_8, hcz56_9, hcz56_10, hcz56_11, hcz56_12, hcz56_13, hcz56_14, hcz56_15, hfz56_0, hfz56_1, hfz56_2, hfz56_3, hfz56_4, hfz56_5, hfz56_6, hfz56_7, hfz56_8, hfz56_9, hfz56_10, hfz56_11, hfz56_12, hfz56_13, hfz56_14, hfz56_15⟩ := bxc16 BK548.out))
      go_meet
      case rel => exact ⟨_, (t582), (t585), (0), (0), (0), (0), (0), (0), (0), (false), (false), (t576), (t577), (t578), (t579), (t580), (t581), (v583), (by first | (with_reducible exact H') | (simp only [*]; with_reducible exact H') | exact H'), ⟨by first | omega | exact Nat.le_refl _⟩, ⟨by (with_reducible repeat (first | apply Kd.Q_alloc | apply Kd.Q_drewN | apply Kd.Q_drew)); exact Kd.Q_mono (Kd.Q_far (p := ⟨gb548, 15, none⟩) (Kd.Q_far (p := ⟨gb548, 14, none⟩) (Kd.Q_far (p := ⟨gb548, 13, none⟩) (Kd.Q_far (p := ⟨gb548, 12, none⟩) (Kd.Q_far (p := ⟨gb548, 11, none⟩) (Kd.Q_far (p := ⟨gb548, 10, none⟩) (Kd.Q_types HO584.out BK548.out (by decide)) (fun _ hk => hk.2) (.int .u8 t576)) (fun _ hk => hk.2) (.int .i64 t577)) (fun _ hk => hk.2) (.int .i64 t578)) (fun _ hk => hk.2) (.int .i64 t579)) (fun _ hk => hk.2) (.int .i64 t580)) (fun _ hk => hk.2) (.int .u8 t581)) (fun _ hk => trivial)⟩, ⟨by (with_reducible repeat (first | refine kN ?_ _ | refine kD ?_ | refine kA ?_ _ | refine kR ?_ NB537_548.out _)); (with_reducible repeat (first | refine kN ?_ _ | refine kD ?_ | refine kA ?_ _)); exact BK537.out⟩, ⟨by (with_reducible repeat (first | refine kN ?_ _ | refine kD ?_ | refine kA ?_ _)); refine kR ?_ NB542_548.out _; (with_reducible repeat (first | refine kN ?_ _ | refine kD ?_ | refine kA ?_ _)); refine kR ?_ NB542_548.out _; (with_reducible repeat (first | refine kN ?_ _ | refine kD ?_ | refine kA ?_ _)); refine kR ?_ NB542_548.out _; (with_reducible repeat (first | refine kN ?_ _ | refine kD ?_ | refine kA ?_ _)); refine kR ?_ NB542_548.out _; (with_reducible repeat (first | refine kN ?_ _ | refine kD ?_ | refine kA ?_ _)); refine kR ?_ NB542_548.out _; (with_reducible repeat (first | refine kN ?_ _ | refine kD ?_ | refine kA ?_ _)); refine kR ?_ NB542_548.out _; (with_reducible repeat (first | refine kN ?_ _ | refine kD ?_ | refine kA ?_ _)); exact BK542.out⟩, ⟨by (with_reducible repeat (first | refine kN ?_ _ | refine kD ?_ | refine kA ?_ _)); refine bxp16_15 (o := .int .u8 0) ?_; (with_reducible repeat (first | refine kN ?_ _ | refine kD ?_ | refine kA ?_ _)); refine bxp16_14 (o := .int .i64 0) ?_; (with_reducible repeat (first | refine kN ?_ _ | refine kD ?_ | refine kA ?_ _)); refine bxp16_13 (o := .int .i64 0) ?_; (with_reducible repeat (first | refine kN ?_ _ | refine kD ?_ | refine kA ?_ _)); refine bxp16_12 (o := .int .i64 0) ?_; (with_reducible repeat (first | refine kN ?_ _ | refine kD ?_ | refine kA ?_ _)); refine bxp16_11 (o := .int .i64 0) ?_; (with_reducible repeat (first | refine kN ?_ _ | refine kD ?_ | refine kA ?_ _)); refine bxp16_10 (o := .int .u8 0) ?_; (with_reducible repeat (first | refine kN ?_ _ | refine kD ?_ | refine kA ?_ _)); exact BK548.out⟩, ⟨by repeat (first | (with_reducible first | exact HB.out | apply kL | apply kM | apply kE | refine kS ?_ GE537.out | refine kS ?_ GE542.out | refine kS ?_ GE548.out) | exact HB.out)⟩⟩
     ·rw [if_neg c49] at H
      have c49b0 : (((t543) % 256) == 10) = false := beq_eq_false_iff_ne.mpr c49
      have c49b1 : (((t543) % 256) != 10) = true := bne_iff_ne.mpr c49
      have H' := Aside0.mk H
      clear H
      have hnb57 := NB548_537.out
      have hnc57 := NB537_548.out
      have hnb58 := NB548_542.out
      have hnc58 := NB542_548.out
      obtain ⟨hcz59_0, hcz59_1, hcz59_2, hcz59_3, hcz59_4, hcz59_5, hcz59_6, hcz59_7, hcz59_8, hcz59_9, hcz59_10, hcz59_11, hcz59_12, hcz59_13, hcz59_14, hcz59_15, hfz59_0, hfz59_1, hfz59_2, hfz59_3, hfz59_4, hfz59_5, hfz59_6, hfz59_7, hfz59_8, hfz59_9, hfz59_10, hfz59_11, hfz59_12, hfz59_13, hfz59_14, hfz59_15⟩ := bxc16 BK548.out
      go_wp2_with (((with_reducible refine gate_callee (f := 26) rfl ?_); refine goesL_ (some 15) rfl rfl Try.func26 (by kernel_rfl) rfl #[.int .u8 ((t543) % 256)] rfl (by (try simp only [List.map_toArray, List.map_cons, List.map_nil]); first | done | rfl | (simp only [List.length_drop, List.length_take]; rfl)) ?_; (with_reducible refine (order_subs.calls ((t543) % 256) false _ A13.out).mono ?_); rintro e w' ⟨rfl, ⟨nd, rfl⟩⟩; refine ⟨_, rfl, ?_⟩))
      go_meet
      case rel => exact ⟨_, (t544), (t547), (0), (0), (0), (0), (0), (0), (0), (false), (false), (0), (0), (0), (0), (0), (0), (v545), (by first | (with_reducible exact H') | (simp only [*]; with_reducible exact H') | exact H'), ⟨by first | omega | exact Nat.le_refl _⟩, ⟨by (with_reducible repeat (first | apply Kd.Q_alloc | apply Kd.Q_drewN | apply Kd.Q_drew)); exact HO546.out⟩, ⟨by (with_reducible repeat (first | refine kN ?_ _ | refine kD ?_ | refine kA ?_ _)); exact BK537.out⟩, ⟨by (with_reducible repeat (first | refine kN ?_ _ | refine kD ?_ | refine kA ?_ _)); exact BK542.out⟩, ⟨by (with_reducible repeat (first | refine kN ?_ _ | refine kD ?_ | refine kA ?_ _)); exact BK548.out⟩, ⟨by repeat (first | (with_reducible first | exact HB.out | apply kL | apply kM | apply kE | refine kS ?_ GE537.out | refine kS ?_ GE542.out | refine kS ?_ GE548.out) | exact HB.out)⟩⟩
 case rest =>
  clear HC4
  try clear c1
  try clear p1
  try clear c2
  try clear p2
  try clear c3
  try clear c4
  try clear c5
  try clear c9
  try clear c10
  try clear c14
  try clear c16
  try clear p16
  try clear c17
  try clear c19
  try clear c20
  try clear c21
  try clear c24
  try clear c26
  try clear c27
  try clear c28
  try clear c29
  try clear c32
  try clear c33
  try clear c33b0
  try clear c33b1
  try clear c35
  try clear c36
  try clear c41
  try clear c41b0
  try clear c41b1
  try clear c43
  try clear c44
  try clear c49
  try clear c49b0
  try clear c49b1
  try clear c51
  try clear c52
  try clear c57
  try clear c58
  try clear hcz11_0
  try clear hcz11_1
  try clear hcz11_10
  try clear hcz11_11
  try clear hcz11_12
  try clear hcz11_13
  try clear hcz11_14
  try clear hcz11_15
  try clear hcz11_2
  try clear hcz11_3
  try clear hcz11_4
  try clear hcz11_5
  try clear hcz11_6
  try clear hcz11_7
  try clear hcz11_8
  try clear hcz11_9
  try clear hcz21_0
  try clear hcz21_1
  try clear hcz21_10
  try clear hcz21_11
  try clear hcz21_12
  try clear hcz21_13
  try clear hcz21_14
  try clear hcz21_15
  try clear hcz21_2
  try clear hcz21_3
  try clear hcz21_4
  try clear hcz21_5
  try clear hcz21_6
  try clear hcz21_7
  try clear hcz21_8
  try clear hcz21_9
  try clear hcz23_0
  try clear hcz23_1
  try clear hcz23_10
  try clear hcz23_11
  try clear hcz23_12
  try clear hcz23_13
  try clear hcz23_14
  try clear hcz23_15
  try clear hcz23_2
  try clear hcz23_3
  try clear hcz23_4
  try clear hcz23_5
  try clear hcz23_6
  try clear hcz23_7
  try clear hcz23_8
  try clear hcz23_9
  try clear hcz25_0
  try clear hcz25_1
  try clear hcz25_10
  try clear hcz25_11
  try clear hcz25_12
  try clear hcz25_13
  try clear hcz25_14
  try clear hcz25_15
  try clear hcz25_2
  try clear hcz25_3
  try clear hcz25_4
  try clear hcz25_5
  try clear hcz25_6
  try clear hcz25_7
  try clear hcz25_8
  try clear hcz25_9
  try clear hcz27_0
  try clear hcz27_1
  try clear hcz27_10
  try clear hcz27_11
  try clear hcz27_12
  try clear hcz27_13
  try clear hcz27_14
  try clear hcz27_15
  try clear hcz27_2
  try clear hcz27_3
  try clear hcz27_4
  try clear hcz27_5
  try clear hcz27_6
  try clear hcz27_7
  try clear hcz27_8
  try clear hcz27_9
  try clear hcz30_0
  try clear hcz30_1
  try clear hcz30_10
  try clear hcz30_11
  try clear hcz30_12
  try clear hcz30_13
  try clear hcz30_14
  try clear hcz30_15
  try clear hcz30_2
  try clear hcz30_3
  try clear hcz30_4
  try clear hcz30_5
  try clear hcz30_6
  try clear hcz30_7
  try clear hcz30_8
  try clear hcz30_9
  try clear hcz32_0
  try clear hcz32_1
  try clear hcz32_10
  try clear hcz32_11
  try clear hcz32_12
  try clear hcz32_13
  try clear hcz32_14
  try clear hcz32_15
  try clear hcz32_2
  try clear hcz32_3
  try clear hcz32_4
  try clear hcz32_5
  try clear hcz32_6
  try clear hcz32_7
  try clear hcz32_8
  try clear hcz32_9
  try clear hcz37_0
  try clear hcz37_1
  try clear hcz37_10
  try clear hcz37_11
  try clear hcz37_12
  try clear hcz37_13
  try clear hcz37_14
  try clear hcz37_15
  try clear hcz37_2
  try clear hcz37_3
  try clear hcz37_4
  try clear hcz37_5
  try clear hcz37_6
  try clear hcz37_7
  try clear hcz37_8
  try clear hcz37_9
  try clear hcz38_0
  try clear hcz38_1
  try clear hcz38_10
  try clear hcz38_11
  try clear hcz38_12
  try clear hcz38_13
  try clear hcz38_14
  try clear hcz38_15
  try clear hcz38_2
  try clear hcz38_3
  try clear hcz38_4
  try clear hcz38_5
  try clear hcz38_6
  try clear hcz38_7
  try clear hcz38_8
  try clear hcz38_9
  try clear hcz40_0
  try clear hcz40_1
  try clear hcz40_10
  try clear hcz40_11
  try clear hcz40_12
  try clear hcz40_13
  try clear hcz40_14
  try clear hcz40_15
  try clear hcz40_2
  try clear hcz40_3
  try clear hcz40_4
  try clear hcz40_5
  try clear hcz40_6
  try clear hcz40_7
  try clear hcz40_8
  try clear hcz40_9
  try clear hcz45_0
  try clear hcz45_1
  try clear hcz45_10
  try clear hcz45_11
  try clear hcz45_12
  try clear hcz45_13
  try clear hcz45_14
  try clear hcz45_15
  try clear hcz45_2
  try clear hcz45_3
  try clear hcz45_4
  try clear hcz45_5
  try clear hcz45_6
  try clear hcz45_7
  try clear hcz45_8
  try clear hcz45_9
  try clear hcz46_0
  try clear hcz46_1
  try clear hcz46_10
  try clear hcz46_11
  try clear hcz46_12
  try clear hcz46_13
  try clear hcz46_14
  try clear hcz46_15
  try clear hcz46_2
  try clear hcz46_3
  try clear hcz46_4
  try clear hcz46_5
  try clear hcz46_6
  try clear hcz46_7
  try clear hcz46_8
  try clear hcz46_9
  try clear hcz48_0
  try clear hcz48_1
  try clear hcz48_10
  try clear hcz48_11
  try clear hcz48_12
  try clear hcz48_13
  try clear hcz48_14
  try clear hcz48_15
  try clear hcz48_2
  try clear hcz48_3
  try clear hcz48_4
  try clear hcz48_5
  try clear hcz48_6
  try clear hcz48_7
  try clear hcz48_8
  try clear hcz48_9
  try clear hcz53_0
  try clear hcz53_1
  try clear hcz53_10
  try clear hcz53_11
  try clear hcz53_12
  try clear hcz53_13
  try clear hcz53_14
  try clear hcz53_15
  try clear hcz53_2
  try clear hcz53_3
  try clear hcz53_4
  try clear hcz53_5
  try clear hcz53_6
  try clear hcz53_7
  try clear hcz53_8
  try clear hcz53_9
  try clear hcz54_0
  try clear hcz54_1
  try clear hcz54_10
  try clear hcz54_11
  try clear hcz54_12
  try clear hcz54_13
  try clear hcz54_14
  try clear hcz54_15
  try clear hcz54_2
  try clear hcz54_3
  try clear hcz54_4
  try clear hcz54_5
  try clear hcz54_6
  try clear hcz54_7
  try clear hcz54_8
  try clear hcz54_9
  try clear hcz56_0
  try clear hcz56_1
  try clear hcz56_10
  try clear hcz56_11
  try clear hcz56_12
  try clear hcz56_13
  try clear hcz56_14
  try clear hcz56_15
  try clear hcz56_2
  try clear hcz56_3
  try clear hcz56_4
  try clear hcz56_5
  try clear hcz56_6
  try clear hcz56_7
  try clear hcz56_8
  try clear hcz56_9
  try clear hcz59_0
  try clear hcz59_1
  try clear hcz59_10
  try clear hcz59_11
  try clear hcz59_12
  try clear hcz59_13
  try clear hcz59_14
  try clear hcz59_15
  try clear hcz59_2
  try clear hcz59_3
  try clear hcz59_4
  try clear hcz59_5
  try clear hcz59_6
  try clear hcz59_7
  try clear hcz59_8
  try clear hcz59_9
  try clear hfz11_0
  try clear hfz11_1
  try clear hfz11_10
  try clear hfz11_11
  try clear hfz11_12
  try clear hfz11_13
  try clear hfz11_14
  try clear hfz11_15
  try clear hfz11_2
  try clear hfz11_3
  try clear hfz11_4
  try clear hfz11_5
  try clear hfz11_6
  try clear hfz11_7
  try clear hfz11_8
  try clear hfz11_9
  try clear hfz21_0
  try clear hfz21_1
  try clear hfz21_10
  try clear hfz21_11
  try clear hfz21_12
  try clear hfz21_13
  try clear hfz21_14
  try clear hfz21_15
  try clear hfz21_2
  try clear hfz21_3
  try clear hfz21_4
  try clear hfz21_5
  try clear hfz21_6
  try clear hfz21_7
  try clear hfz21_8
  try clear hfz21_9
  try clear hfz23_0
  try clear hfz23_1
  try clear hfz23_10
  try clear hfz23_11
  try clear hfz23_12
  try clear hfz23_13
  try clear hfz23_14
  try clear hfz23_15
  try clear hfz23_2
  try clear hfz23_3
  try clear hfz23_4
  try clear hfz23_5
  try clear hfz23_6
  try clear hfz23_7
  try clear hfz23_8
  try clear hfz23_9
  try clear hfz25_0
  try clear hfz25_1
  try clear hfz25_10
  try clear hfz25_11
  try clear hfz25_12
  try clear hfz25_13
  try clear hfz25_14
  try clear hfz25_15
  try clear hfz25_2
  try clear hfz25_3
  try clear hfz25_4
  try clear hfz25_5
  try clear hfz25_6
  try clear hfz25_7
  try clear hfz25_8
  try clear hfz25_9
  try clear hfz27_0
  try clear hfz27_1
  try clear hfz27_10
  try clear hfz27_11
  try clear hfz27_12
  try clear hfz27_13
  try clear hfz27_14
  try clear hfz27_15
  try clear hfz27_2
  try clear hfz27_3
  try clear hfz27_4
  try clear hfz27_5
  try clear hfz27_6
  try clear hfz27_7
  try clear hfz27_8
  try clear hfz27_9
  try clear hfz30_0
  try clear hfz30_1
  try clear hfz30_10
  try clear hfz30_11
  try clear hfz30_12
  try clear hfz30_13
  try clear hfz30_14
  try clear hfz30_15
  try clear hfz30_2
  try clear hfz30_3
  try clear hfz30_4
  try clear hfz30_5
  try clear hfz30_6
  try clear hfz30_7
  try clear hfz30_8
  try clear hfz30_9
  try clear hfz32_0
  try clear hfz32_1
  try clear hfz32_10
  try clear hfz32_11
  try clear hfz32_12
  try clear hfz32_13
  try clear hfz32_14
  try clear hfz32_15
  try clear hfz32_2
  try clear hfz32_3
  try clear hfz32_4
  try clear hfz32_5
  try clear hfz32_6
  try clear hfz32_7
  try clear hfz32_8
  try clear hfz32_9
  try clear hfz37_0
  try clear hfz37_1
  try clear hfz37_10
  try clear hfz37_11
  try clear hfz37_12
  try clear hfz37_13
  try clear hfz37_14
  try clear hfz37_15
  try clear hfz37_2
  try clear hfz37_3
  try clear hfz37_4
  try clear hfz37_5
  try clear hfz37_6
  try clear hfz37_7
  try clear hfz37_8
  try clear hfz37_9
  try clear hfz38_0
  try clear hfz38_1
  try clear hfz38_10
  try clear hfz38_11
  try clear hfz38_12
  try clear hfz38_13
  try clear hfz38_14
  try clear hfz38_15
  try clear hfz38_2
  try clear hfz38_3
  try clear hfz38_4
  try clear hfz38_5
  try clear hfz38_6
  try clear hfz38_7
  try clear hfz38_8
  try clear hfz38_9
  try clear hfz40_0
  try clear hfz40_1
  try clear hfz40_10
  try clear hfz40_11
  try clear hfz40_12
  try clear hfz40_13
  try clear hfz40_14
  try clear hfz40_15
  try clear hfz40_2
  try clear hfz40_3
  try clear hfz40_4
  try clear hfz40_5
  try clear hfz40_6
  try clear hfz40_7
  try clear hfz40_8
  try clear hfz40_9
  try clear hfz45_0
  try clear hfz45_1
  try clear hfz45_10
  try clear hfz45_11
  try clear hfz45_12
  try clear hfz45_13
  try clear hfz45_14
  try clear hfz45_15
  try clear hfz45_2
  try clear hfz45_3
  try clear hfz45_4
  try clear hfz45_5
  try clear hfz45_6
  try clear hfz45_7
  try clear hfz45_8
  try clear hfz45_9
  try clear hfz46_0
  try clear hfz46_1
  try clear hfz46_10
  try clear hfz46_11
  try clear hfz46_12
  try clear hfz46_13
  try clear hfz46_14
  try clear hfz46_15
  try clear hfz46_2
  try clear hfz46_3
  try clear hfz46_4
  try clear hfz46_5
  try clear hfz46_6
  try clear hfz46_7
  try clear hfz46_8
  try clear hfz46_9
  try clear hfz48_0
  try clear hfz48_1
  try clear hfz48_10
  try clear hfz48_11
  try clear hfz48_12
  try clear hfz48_13
  try clear hfz48_14
  try clear hfz48_15
  try clear hfz48_2
  try clear hfz48_3
  try clear hfz48_4
  try clear hfz48_5
  try clear hfz48_6
  try clear hfz48_7
  try clear hfz48_8
  try clear hfz48_9
  try clear hfz53_0
  try clear hfz53_1
  try clear hfz53_10
  try clear hfz53_11
  try clear hfz53_12
  try clear hfz53_13
  try clear hfz53_14
  try clear hfz53_15
  try clear hfz53_2
  try clear hfz53_3
  try clear hfz53_4
  try clear hfz53_5
  try clear hfz53_6
  try clear hfz53_7
  try clear hfz53_8
  try clear hfz53_9
  try clear hfz54_0
  try clear hfz54_1
  try clear hfz54_10
  try clear hfz54_11
  try clear hfz54_12
  try clear hfz54_13
  try clear hfz54_14
  try clear hfz54_15
  try clear hfz54_2
  try clear hfz54_3
  try clear hfz54_4
  try clear hfz54_5
  try clear hfz54_6
  try clear hfz54_7
  try clear hfz54_8
  try clear hfz54_9
  try clear hfz56_0
  try clear hfz56_1
  try clear hfz56_10
  try clear hfz56_11
  try clear hfz56_12
  try clear hfz56_13
  try clear hfz56_14
  try clear hfz56_15
  try clear hfz56_2
  try clear hfz56_3
  try clear hfz56_4
  try clear hfz56_5
  try clear hfz56_6
  try clear hfz56_7
  try clear hfz56_8
  try clear hfz56_9
  try clear hfz59_0
  try clear hfz59_1
  try clear hfz59_10
  try clear hfz59_11
  try clear hfz59_12
  try clear hfz59_13
  try clear hfz59_14
  try clear hfz59_15
  try clear hfz59_2
  try clear hfz59_3
  try clear hfz59_4
  try clear hfz59_5
  try clear hfz59_6
  try clear hfz59_7
  try clear hfz59_8
  try clear hfz59_9
  obtain ⟨kq, x543000_3, x543001_3, x549001_3, x549002_3, x549003_3, x549004_3, x549005_3, x549006_3, x549007_3, x549008_3, x549009_3, x549010_3, x549011_3, x549012_3, x549013_3, x549014_3, x549015_3, u543000, HA, HJ3, HO_543000, BK537, BK542, BK548, HB⟩ := hcut
  cases kq with
  | zero => exact absurd HA.out (by simp [order_Decode.j0])
  | succ kj3 =>
   have H := HA.out
   clear HA
   simp only [order_Decode.j0] at H
   replace H := Option.bind_eq_some_iff.mp H
   obtain ⟨⟨t586, t587, t590⟩, A600, H⟩ := H
   replace H : (if t586 = 0 then ((order_Right.f kj3 ((t543) % 256) x549001_3 x549002_3 x549003_3 x549004_3 x549005_3 x549006_3 x549007_3 x549008_3 x549009_3 x549010_3 x549011_3 x549012_3 x549013_3 x549014_3 x549015_3).bind fun t591 => (if t591 = 0 then (some (((t543) % 256), x549001_3, x549002_3, x549003_3, x549004_3, x549005_3, x549006_3, x549007_3, x549008_3, x549009_3, x549010_3, x549011_3, x549012_3, x549013_3, x549014_3, x549015_3, 0)) else (some (0, 0, 0, 0, 0, 0, 0, 0, false, false, 0, 0, 0, 0, 0, 0, 4)))) else (some (0, 0, 0, 0, 0, 0, 0, 0, false, false, 0, 0, 0, 0, 0, 0, 4))) = some (r1, r2, r3, r4, r5, r6, r7, r8, r9, r10, r11, r12, r13, r14, r15, r16, r17) := H
   have A60 := Aside0.mk A600
   clear A600
   by_cases c61 : t586 = 0
   ·rw [if_pos c61] at H
    have c61b0 : (t586 == 0) = true := beq_iff_eq.mpr c61
    have c61b1 : (t586 != 0) = false := bne_eq_false_iff_eq.mpr c61
    clear c61
    replace H := Option.bind_eq_some_iff.mp H
    obtain ⟨t591, A620, H⟩ := H
    replace H : (if t591 = 0 then (some (((t543) % 256), x549001_3, x549002_3, x549003_3, x549004_3, x549005_3, x549006_3, x549007_3, x549008_3, x549009_3, x549010_3, x549011_3, x549012_3, x549013_3, x549014_3, x549015_3, 0)) else (some (0, 0, 0, 0, 0, 0, 0, 0, false, false, 0, 0, 0, 0, 0, 0, 4))) = some (r1, r2, r3, r4, r5, r6, r7, r8, r9, r10, r11, r12, r13, r14, r15, r16, r17) := H
    have A62 := Aside0.mk A620
    clear A620
    by_cases c63 : t591 = 0
    ·rw [if_pos c63] at H
     have c63b0 : (t591 == 0) = true := beq_iff_eq.mpr c63
     have c63b1 : (t591 != 0) = false := bne_eq_false_iff_eq.mpr c63
     clear c63
     simp only [Option.some.injEq, Prod.mk.injEq] at H
     obtain ⟨rfl, rfl, rfl, rfl, rfl, rfl, rfl, rfl, rfl, rfl, rfl, rfl, rfl, rfl, rfl, rfl, rfl⟩ := H
     go_wp2_with (first | ((with_reducible refine gate_callee (f := 23) rfl ?_); refine goesL_ (some 47) rfl rfl Try.func23 (by kernel_rfl) rfl #[.pointer (some ⟨gb542, 0, none⟩)] rfl (by (try simp only [List.map_toArray, List.map_cons, List.map_nil]); first | done | rfl | (simp only [List.length_drop, List.length_take]; rfl)) ?_; (with_reducible refine (pack_Box_End.calls gb542 (fun k_ => some k_ = (u543000 : Value).ownBlock) u543000 x543000_3 x543001_3 t586 t587 t590 w _ ?side1 ?side2 ?side3 ?side4 A60.out).mono ?_); (case side1 => repeat (first | (with_reducible first | exact HB.out | apply kL | apply kM | apply kE | refine kS ?_ GE537.out | refine kS ?_ GE542.out | refine kS ?_ GE548.out) | exact HB.out)); (case side2 => exact (by (with_reducible repeat (first | refine kN ?_ _ | refine kD ?_ | refine kA ?_ _)); exact BK542.out)); (case side3 => exact GE542.out); (case side4 => exact Kd.Q_tight rfl HO_543000.out); rintro e w64 ⟨v588, rfl, ho0, hi, hb, hkp⟩; refine ⟨_, rfl, ?_⟩; have n0_ := Aside0.mk (blk_kept (by (with_reducible repeat (first | refine kN ?_ _ | refine kD ?_ | refine kA ?_ _)); exact BK537.out) hkp (fun hs_ => Or.elim hs_ (fun hs_ => (fun e_ => (Kd.Q_ne HO_543000.out BK537.out (by decide)) e_) hs_) (fun e_ => NB537_542.out e_))); have n1_ := Aside0.mk (hi); have n2_ := Aside0.mk (blk_kept (by (with_reducible repeat (first | refine kN ?_ _ | refine kD ?_ | refine kA ?_ _)); exact BK548.out) hkp (fun hs_ => Or.elim hs_ (fun hs_ => (fun e_ => (Kd.Q_ne HO_543000.out BK548.out (by decide)) e_) hs_) (fun e_ => NB548_542.out e_))); have n3_ := Aside0.mk (Kd.Q_mono (ok' := fun k_ => True) ho0 (fun k_ hk_ => trivial)); have n4_ := Aside0.mk (hb); clear BK537; clear BK542; clear BK548; clear HB; clear HO_543000; have BK537 := n0_; have BK542 := n1_; have BK548 := n2_; have HO589 := n3_; have HB := n4_; clear n0_ n1_ n2_ n3_ n4_; (try clear hb); (try clear hkp); (try clear hi); (try clear ho0); have hnb65 := NB548_537.out; have hnc65 := NB537_548.out; have hnb66 := NB548_542.out; have hnc66 := NB542_548.out; obtain ⟨hcz67_0, hcz67_1, hcz67_2, hcz67_3, hcz67_4, hcz67_5, hcz67_6, hcz67_7, hcz67_8, hcz67_9, hcz67_10, hcz67_11, hcz67_12, hcz67_13, hcz67_14, hcz67_15, hfz67_0, hfz67_1, hfz67_2, hfz67_3, hfz67_4, hfz67_5, hfz67_6, hfz67_7, hfz67_8, hfz67_9, hfz67_10, hfz67_11, hfz67_12, hfz67_13, hfz67_14, hfz67_15⟩ := bxc16 BK548.out) | ((with_reducible refine gate_dst (N := 50) rfl ?_); (refine gate_guard (by rfl) ?_; dsimp only); refine wpList_load_row rfl 27 (.tmp 5) rfl gb548 rfl 27 #[.int .u8 ((t543) % 256), .int .i64 x549001_3, .int .i64 x549002_3, .int .i64 x549003_3, .int .i64 x549004_3, .int .u8 x549005_3, .int .i64 x549006_3, .int .i64 x549007_3, .bool x549008_3, .bool x549009_3, .int .u8 x549010_3, .int .i64 x549011_3, .int .i64 x549012_3, .int .i64 x549013_3, .int .i64 x549014_3, .int .u8 x549015_3] (0, 0) _ (by (with_reducible repeat (first | refine kN ?_ _ | refine kD ?_ | refine kA ?_ _)); exact BK548.out) Try.underlying27 rfl (by kernel_rfl) ?_) | (go_at_call 11; (with_reducible refine (order_Right.calls kj3 ((t543) % 256) x549001_3 x549002_3 x549003_3 x549004_3 x549005_3 x549006_3 x549007_3 x549008_3 x549009_3 x549010_3 x549011_3 x549012_3 x549013_3 x549014_3 x549015_3 t591 _ A62.out).mono ?_); rintro e w68 ⟨rfl, hb⟩; have n0_ := Aside0.mk (Kd.Q_below (by (with_reducible repeat (first | apply Kd.Q_alloc | apply Kd.Q_drewN | apply Kd.Q_drew)); exact HO589.out) hb); have n1_ := Aside0.mk (blk_below (g := gb537) (o := .cells #[.int .u8 0, .int .i64 0, .int .i64 0, .int .i64 0, .int .i64 0, .int .u8 0, .int .i64 0, .int .i64 0, .bool false, .bool false, .int .u8 0, .int .i64 0, .int .i64 0, .int .i64 0, .int .i64 0, .int .u8 0] 27 (0, 0)) (by (with_reducible repeat (first | refine kN ?_ _ | refine kD ?_ | refine kA ?_ _)); exact BK537.out) hb); have n2_ := Aside0.mk (blk_below (g := gb542) (o := .cells #[v588, .int .i64 t590] 60 (0, 0)) (by (with_reducible repeat (first | refine kN ?_ _ | refine kD ?_ | refine kA ?_ _)); exact BK542.out) hb); have n3_ := Aside0.mk (blk_below (g := gb548) (o := .cells #[.int .u8 ((t543) % 256), .int .i64 x549001_3, .int .i64 x549002_3, .int .i64 x549003_3, .int .i64 x549004_3, .int .u8 x549005_3, .int .i64 x549006_3, .int .i64 x549007_3, .bool x549008_3, .bool x549009_3, .int .u8 x549010_3, .int .i64 x549011_3, .int .i64 x549012_3, .int .i64 x549013_3, .int .i64 x549014_3, .int .u8 x549015_3] 27 (0, 0)) (by (with_reducible repeat (first | refine kN ?_ _ | refine kD ?_ | refine kA ?_ _)); exact BK548.out) hb); have n4_ := Aside0.mk (below_step (by repeat (first | (with_reducible first | exact HB.out | apply kL | apply kM | apply kE | refine kS ?_ GE537.out | refine kS ?_ GE542.out | refine kS ?_ GE548.out) | exact HB.out)) hb); clear HO589; clear BK537; clear BK542; clear BK548; clear HB; have HO589 := n0_; have BK537 := n1_; have BK542 := n2_; have BK548 := n3_; have HB := n4_; clear n0_ n1_ n2_ n3_ n4_; (try clear hb); (try clear hb2); (try clear hk); (try clear hi); obtain ⟨hcz69_0, hcz69_1, hcz69_2, hcz69_3, hcz69_4, hcz69_5, hcz69_6, hcz69_7, hcz69_8, hcz69_9, hcz69_10, hcz69_11, hcz69_12, hcz69_13, hcz69_14, hcz69_15, hfz69_0, hfz69_1, hfz69_2, hfz69_3, hfz69_4, hfz69_5, hfz69_6, hfz69_7, hfz69_8, hfz69_9, hfz69_10, hfz69_11, hfz69_12, hfz69_13, hfz69_14, hfz69_15⟩ := bxc16 BK548.out; have hnb70 := NB537_542.out; have hnc70 := NB542_537.out; obtain ⟨hcz71_0, hcz71_1, hcz71_2, hcz71_3, hcz71_4, hcz71_5, hcz71_6, hcz71_7, hcz71_8, hcz71_9, hcz71_10, hcz71_11, hcz71_12, hcz71_13, hcz71_14, hcz71_15, hfz71_0, hfz71_1, hfz71_2, hfz71_3, hfz71_4, hfz71_5, hfz71_6, hfz71_7, hfz71_8, hfz71_9, hfz71_10, hfz71_11, hfz71_12, hfz71_13, hfz71_14, hfz71_15⟩ := bxc16 BK537.out) | ((with_reducible refine gate_dst (N := 55) rfl ?_); refine wpList_load_row rfl 27 (.tmp 5) rfl gb548 rfl 27 #[.int .u8 ((t543) % 256), .int .i64 x549001_3, .int .i64 x549002_3, .int .i64 x549003_3, .int .i64 x549004_3, .int .u8 x549005_3, .int .i64 x549006_3, .int .i64 x549007_3, .bool x549008_3, .bool x549009_3, .int .u8 x549010_3, .int .i64 x549011_3, .int .i64 x549012_3, .int .i64 x549013_3, .int .i64 x549014_3, .int .u8 x549015_3] (0, 0) _ (by (with_reducible repeat (first | refine kN ?_ _ | refine kD ?_ | refine kA ?_ _)); exact BK548.out) Try.underlying27 rfl (by kernel_rfl) ?_) | ((with_reducible refine gate_store (t := 27) (p := 2) rfl ?_); refine store_event (t := 27) (p := 2) (v := ?vo_w72) (w1 := ((((((((((((((((w68.setCell ⟨gb537, 0, none⟩ (.int .u8 ((t543) % 256))).setCell ⟨gb537, 1, none⟩ (.int .i64 x549001_3)).setCell ⟨gb537, 2, none⟩ (.int .i64 x549002_3)).setCell ⟨gb537, 3, none⟩ (.int .i64 x549003_3)).setCell ⟨gb537, 4, none⟩ (.int .i64 x549004_3)).setCell ⟨gb537, 5, none⟩ (.int .u8 x549005_3)).setCell ⟨gb537, 6, none⟩ (.int .i64 x549006_3)).setCell ⟨gb537, 7, none⟩ (.int .i64 x549007_3)).setCell ⟨gb537, 8, none⟩ (.bool x549008_3)).setCell ⟨gb537, 9, none⟩ (.bool x549009_3)).setCell ⟨gb537, 10, none⟩ (.int .u8 x549010_3)).setCell ⟨gb537, 11, none⟩ (.int .i64 x549011_3)).setCell ⟨gb537, 12, none⟩ (.int .i64 x549012_3)).setCell ⟨gb537, 13, none⟩ (.int .i64 x549013_3)).setCell ⟨gb537, 14, none⟩ (.int .i64 x549014_3)).setCell ⟨gb537, 15, none⟩ (.int .u8 x549015_3))) ?hg ?ho ?hn ?hr ?_; (case ho => rfl); (case hg => rfl); (case hn => rfl); (case hr => first | exact Eq.trans (store_run (cells := #[.int .u8 ((t543) % 256), .int .i64 x549001_3, .int .i64 x549002_3, .int .i64 x549003_3, .int .i64 x549004_3, .int .u8 x549005_3, .int .i64 x549006_3, .int .i64 x549007_3, .bool x549008_3, .bool x549009_3, .int .u8 x549010_3, .int .i64 x549011_3, .int .i64 x549012_3, .int .i64 x549013_3, .int .i64 x549014_3, .int .u8 x549015_3]) #[.int .u8 0, .int .i64 0, .int .i64 0, .int .i64 0, .int .i64 0, .int .u8 0, .int .i64 0, .int .i64 0, .bool false, .bool false, .int .u8 0, .int .i64 0, .int .i64 0, .int .i64 0, .int .i64 0, .int .u8 0] (by rfl) (by rfl) (by rfl) (BK537.out) (Nat.le_refl 16) (by kernel_rfl) (by kernel_rfl)) (by rfl) | (go_simp; done) | (go_simp; rfl)); intro w72 hw; have n0_ : Aside0 (Kd.Q (Kd.int .u8) 5 w72 w.heap.size (fun _ => True) v588 t587) := ⟨(by rw [hw]; exact (by (with_reducible repeat (first | apply Kd.Q_alloc | apply Kd.Q_drewN | apply Kd.Q_drew)); exact Kd.Q_mono (Kd.Q_far (p := ⟨gb537, 15, none⟩) (Kd.Q_far (p := ⟨gb537, 14, none⟩) (Kd.Q_far (p := ⟨gb537, 13, none⟩) (Kd.Q_far (p := ⟨gb537, 12, none⟩) (Kd.Q_far (p := ⟨gb537, 11, none⟩) (Kd.Q_far (p := ⟨gb537, 10, none⟩) (Kd.Q_far (p := ⟨gb537, 9, none⟩) (Kd.Q_far (p := ⟨gb537, 8, none⟩) (Kd.Q_far (p := ⟨gb537, 7, none⟩) (Kd.Q_far (p := ⟨gb537, 6, none⟩) (Kd.Q_far (p := ⟨gb537, 5, none⟩) (Kd.Q_far (p := ⟨gb537, 4, none⟩) (Kd.Q_far (p := ⟨gb537, 3, none⟩) (Kd.Q_far (p := ⟨gb537, 2, none⟩) (Kd.Q_far (p := ⟨gb537, 1, none⟩) (Kd.Q_far (p := ⟨gb537, 0, none⟩) (Kd.Q_types HO589.out BK537.out (by decide)) (fun _ hk => hk.2) (.int .u8 ((t543) % 256))) (fun _ hk => hk.2) (.int .i64 x549001_3)) (fun _ hk => hk.2) (.int .i64 x549002_3)) (fun _ hk => hk.2) (.int .i64 x549003_3)) (fun _ hk => hk.2) (.int .i64 x549004_3)) (fun _ hk => hk.2) (.int .u8 x549005_3)) (fun _ hk => hk.2) (.int .i64 x549006_3)) (fun _ hk => hk.2) (.int .i64 x549007_3)) (fun _ hk => hk.2) (.bool x549008_3)) (fun _ hk => hk.2) (.bool x549009_3)) (fun _ hk => hk.2) (.int .u8 x549010_3)) (fun _ hk => hk.2) (.int .i64 x549011_3)) (fun _ hk => hk.2) (.int .i64 x549012_3)) (fun _ hk => hk.2) (.int .i64 x549013_3)) (fun _ hk => hk.2) (.int .i64 x549014_3)) (fun _ hk => hk.2) (.int .u8 x549015_3)) (fun _ hk => trivial)))⟩; have n1_ : Aside0 (w72.heap[gb537]? = some (.cells #[.int .u8 ((t543) % 256), .int .i64 x549001_3, .int .i64 x549002_3, .int .i64 x549003_3, .int .i64 x549004_3, .int .u8 x549005_3, .int .i64 x549006_3, .int .i64 x549007_3, .bool x549008_3, .bool x549009_3, .int .u8 x549010_3, .int .i64 x549011_3, .int .i64 x549012_3, .int .i64 x549013_3, .int .i64 x549014_3, .int .u8 x549015_3] 27 (0, 0))) := ⟨(by rw [hw]; exact (by (with_reducible repeat (first | refine kN ?_ _ | refine kD ?_ | refine kA ?_ _)); refine bxw16 (.int .u8 0) (.int .i64 0) (.int .i64 0) (.int .i64 0) (.int .i64 0) (.int .u8 0) (.int .i64 0) (.int .i64 0) (.bool false) (.bool false) (.int .u8 0) (.int .i64 0) (.int .i64 0) (.int .i64 0) (.int .i64 0) (.int .u8 0) ?_; (with_reducible repeat (first | refine kN ?_ _ | refine kD ?_ | refine kA ?_ _)); exact BK537.out))⟩; have n2_ : Aside0 (w72.heap[gb542]? = some (.cells #[v588, .int .i64 t590] 60 (0, 0))) := ⟨(by rw [hw]; exact (by (with_reducible repeat (first | refine kN ?_ _ | refine kD ?_ | refine kA ?_ _)); refine kR ?_ NB542_537.out _; (with_reducible repeat (first | refine kN ?_ _ | refine kD ?_ | refine kA ?_ _)); refine kR ?_ NB542_537.out _; (with_reducible repeat (first | refine kN ?_ _ | refine kD ?_ | refine kA ?_ _)); refine kR ?_ NB542_537.out _; (with_reducible repeat (first | refine kN ?_ _ | refine kD ?_ | refine kA ?_ _)); refine kR ?_ NB542_537.out _; (with_reducible repeat (first | refine kN ?_ _ | refine kD ?_ | refine kA ?_ _)); refine kR ?_ NB542_537.out _; (with_reducible repeat (first | refine kN ?_ _ | refine kD ?_ | refine kA ?_ _)); refine kR ?_ NB542_537.out _; (with_reducible repeat (first | refine kN ?_ _ | refine kD ?_ | refine kA ?_ _)); refine kR ?_ NB542_537.out _; (with_reducible repeat (first | refine kN ?_ _ | refine kD ?_ | refine kA ?_ _)); refine kR ?_ NB542_537.out _; (with_reducible repeat (first | refine kN ?_ _ | refine kD ?_ | refine kA ?_ _)); refine kR ?_ NB542_537.out _; (with_reducible repeat (first | refine kN ?_ _ | refine kD ?_ | refine kA ?_ _)); refine kR ?_ NB542_537.out _; (with_reducible repeat (first | refine kN ?_ _ | refine kD ?_ | refine kA ?_ _)); refine kR ?_ NB542_537.out _; (with_reducible repeat (first | refine kN ?_ _ | refine kD ?_ | refine kA ?_ _)); refine kR ?_ NB542_537.out _; (with_reducible repeat (first | refine kN ?_ _ | refine kD ?_ | refine kA ?_ _)); refine kR ?_ NB542_537.out _; (with_reducible repeat (first | refine kN ?_ _ | refine kD ?_ | refine kA ?_ _)); refine kR ?_ NB542_537.out _; (with_reducible repeat (first | refine kN ?_ _ | refine kD ?_ | refine kA ?_ _)); refine kR ?_ NB542_537.out _; (with_reducible repeat (first | refine kN ?_ _ | refine kD ?_ | refine kA ?_ _)); refine kR ?_ NB542_537.out _; (with_reducible repeat (first | refine kN ?_ _ | refine kD ?_ | refine kA ?_ _)); exact BK542.out))⟩; have n3_ : Aside0 (w72.heap[gb548]? = some (.cells #[.int .u8 ((t543) % 256), .int .i64 x549001_3, .int .i64 x549002_3, .int .i64 x549003_3, .int .i64 x549004_3, .int .u8 x549005_3, .int .i64 x549006_3, .int .i64 x549007_3, .bool x549008_3, .bool x549009_3, .int .u8 x549010_3, .int .i64 x549011_3, .int .i64 x549012_3, .int .i64 x549013_3, .int .i64 x549014_3, .int .u8 x549015_3] 27 (0, 0))) := ⟨(by rw [hw]; exact (by (with_reducible repeat (first | refine kN ?_ _ | refine kD ?_ | refine kA ?_ _ | refine kR ?_ NB548_537.out _)); (with_reducible repeat (first | refine kN ?_ _ | refine kD ?_ | refine kA ?_ _)); exact BK548.out))⟩; have n4_ : Aside0 (Below w.heap.size w w72) := ⟨(by rw [hw]; exact (by repeat (first | (with_reducible first | exact HB.out | apply kL | apply kM | apply kE | refine kS ?_ GE537.out | refine kS ?_ GE542.out | refine kS ?_ GE548.out) | exact HB.out)))⟩; clear hw; clear HO589; clear BK537; clear BK542; clear BK548; clear HB; have HO589 := n0_; have BK537 := n1_; have BK542 := n2_; have BK548 := n3_; have HB := n4_; clear n0_ n1_ n2_ n3_ n4_))
     refine bodyPost_ret (results_ct rfl _ _ gb537 27 #[.int .u8 ((t543) % 256), .int .i64 x549001_3, .int .i64 x549002_3, .int .i64 x549003_3, .int .i64 x549004_3, .int .u8 x549005_3, .int .i64 x549006_3, .int .i64 x549007_3, .bool x549008_3, .bool x549009_3, .int .u8 x549010_3, .int .i64 x549011_3, .int .i64 x549012_3, .int .i64 x549013_3, .int .i64 x549014_3, .int .u8 x549015_3] (0, 0) _ rfl (by (with_reducible repeat (first | refine kN ?_ _ | refine kD ?_ | refine kA ?_ _)); exact BK537.out) Try.underlying27 rfl (by kernel_rfl)) rfl ?_
     exact ⟨by first | rfl | (simp [errW_none, errW_some] <;> rfl) | (simp [*, errW_none, errW_some] <;> rfl), by repeat (first | (with_reducible first | exact HB.out | apply kL | apply kM | apply kE | refine kS ?_ GE537.out | refine kS ?_ GE542.out | refine kS ?_ GE548.out) | exact HB.out)⟩
    ·rw [if_neg c63] at H
     have c63b0 : (t591 == 0) = false := beq_eq_false_iff_ne.mpr c63
     have c63b1 : (t591 != 0) = true := bne_iff_ne.mpr c63
     simp only [Option.some.injEq, Prod.mk.injEq] at H
     obtain ⟨rfl, rfl, rfl, rfl, rfl, rfl, rfl, rfl, rfl, rfl, rfl, rfl, rfl, rfl, rfl, rfl, rfl⟩ := H
     go_wp2_with (first | ((with_reducible refine gate_callee (f := 23) rfl ?_); refine goesL_ (some 47) rfl rfl Try.func23 (by kernel_rfl) rfl #[.pointer (some ⟨gb542, 0, none⟩)] rfl (by (try simp only [List.map_toArray, List.map_cons, List.map_nil]); first | done | rfl | (simp only [List.length_drop, List.length_take]; rfl)) ?_; (with_reducible refine (pack_Box_End.calls gb542 (fun k_ => some k_ = (u543000 : Value).ownBlock) u543000 x543000_3 x543001_3 t586 t587 t590 w _ ?side1 ?side2 ?side3 ?side4 A60.out).mono ?_); (case side1 => repeat (first | (with_reducible first | exact HB.out | apply kL | apply kM | apply kE | refine kS ?_ GE537.out | refine kS ?_ GE542.out | refine kS ?_ GE548.out) | exact HB.out)); (case side2 => exact (by (with_reducible repeat (first | refine kN ?_ _ | refine kD ?_ | refine kA ?_ _)); exact BK542.out)); (case side3 => exact GE542.out); (case side4 => exact Kd.Q_tight rfl HO_543000.out); rintro e w73 ⟨v588, rfl, ho0, hi, hb, hkp⟩; refine ⟨_, rfl, ?_⟩; have n0_ := Aside0.mk (blk_kept (by (with_reducible repeat (first | refine kN ?_ _ | refine kD ?_ | refine kA ?_ _)); exact BK537.out) hkp (fun hs_ => Or.elim hs_ (fun hs_ => (fun e_ => (Kd.Q_ne HO_543000.out BK537.out (by decide)) e_) hs_) (fun e_ => NB537_542.out e_))); have n1_ := Aside0.mk (hi); have n2_ := Aside0.mk (blk_kept (by (with_reducible repeat (first | refine kN ?_ _ | refine kD ?_ | refine kA ?_ _)); exact BK548.out) hkp (fun hs_ => Or.elim hs_ (fun hs_ => (fun e_ => (Kd.Q_ne HO_543000.out BK548.out (by decide)) e_) hs_) (fun e_ => NB548_542.out e_))); have n3_ := Aside0.mk (Kd.Q_mono (ok' := fun k_ => True) ho0 (fun k_ hk_ => trivial)); have n4_ := Aside0.mk (hb); clear BK537; clear BK542; clear BK548; clear HB; clear HO_543000; have BK537 := n0_; have BK542 := n1_; have BK548 := n2_; have HO589 := n3_; have HB := n4_; clear n0_ n1_ n2_ n3_ n4_; (try clear hb); (try clear hkp); (try clear hi); (try clear ho0); have hnb74 := NB548_537.out; have hnc74 := NB537_548.out; have hnb75 := NB548_542.out; have hnc75 := NB542_548.out; obtain ⟨hcz76_0, hcz76_1, hcz76_2, hcz76_3, hcz76_4, hcz76_5, hcz76_6, hcz76_7, hcz76_8, hcz76_9, hcz76_10, hcz76_11, hcz76_12, hcz76_13, hcz76_14, hcz76_15, hfz76_0, hfz76_1, hfz76_2, hfz76_3, hfz76_4, hfz76_5, hfz76_6, hfz76_7, hfz76_8, hfz76_9, hfz76_10, hfz76_11, hfz76_12, hfz76_13, hfz76_14, hfz76_15⟩ := bxc16 BK548.out) | ((with_reducible refine gate_dst (N := 50) rfl ?_); (refine gate_guard (by rfl) ?_; dsimp only); refine wpList_load_row rfl 27 (.tmp 5) rfl gb548 rfl 27 #[.int .u8 ((t543) % 256), .int .i64 x549001_3, .int .i64 x549002_3, .int .i64 x549003_3, .int .i64 x549004_3, .int .u8 x549005_3, .int .i64 x549006_3, .int .i64 x549007_3, .bool x549008_3, .bool x549009_3, .int .u8 x549010_3, .int .i64 x549011_3, .int .i64 x549012_3, .int .i64 x549013_3, .int .i64 x549014_3, .int .u8 x549015_3] (0, 0) _ (by (with_reducible repeat (first | refine kN ?_ _ | refine kD ?_ | refine kA ?_ _)); exact BK548.out) Try.underlying27 rfl (by kernel_rfl) ?_) | (go_at_call 11; (with_reducible refine (order_Right.calls kj3 ((t543) % 256) x549001_3 x549002_3 x549003_3 x549004_3 x549005_3 x549006_3 x549007_3 x549008_3 x549009_3 x549010_3 x549011_3 x549012_3 x549013_3 x549014_3 x549015_3 t591 _ A62.out).mono ?_); rintro e w77 ⟨rfl, hb⟩; have n0_ := Aside0.mk (Kd.Q_below (by (with_reducible repeat (first | apply Kd.Q_alloc | apply Kd.Q_drewN | apply Kd.Q_drew)); exact HO589.out) hb); have n1_ := Aside0.mk (blk_below (g := gb537) (o := .cells #[.int .u8 0, .int .i64 0, .int .i64 0, .int .i64 0, .int .i64 0, .int .u8 0, .int .i64 0, .int .i64 0, .bool false, .bool false, .int .u8 0, .int .i64 0, .int .i64 0, .int .i64 0, .int .i64 0, .int .u8 0] 27 (0, 0)) (by (with_reducible repeat (first | refine kN ?_ _ | refine kD ?_ | refine kA ?_ _)); exact BK537.out) hb); have n2_ := Aside0.mk (blk_below (g := gb542) (o := .cells #[v588, .int .i64 t590] 60 (0, 0)) (by (with_reducible repeat (first | refine kN ?_ _ | refine kD ?_ | refine kA ?_ _)); exact BK542.out) hb); have n3_ := Aside0.mk (blk_below (g := gb548) (o := .cells #[.int .u8 ((t543) % 256), .int .i64 x549001_3, .int .i64 x549002_3, .int .i64 x549003_3, .int .i64 x549004_3, .int .u8 x549005_3, .int .i64 x549006_3, .int .i64 x549007_3, .bool x549008_3, .bool x549009_3, .int .u8 x549010_3, .int .i64 x549011_3, .int .i64 x549012_3, .int .i64 x549013_3, .int .i64 x549014_3, .int .u8 x549015_3] 27 (0, 0)) (by (with_reducible repeat (first | refine kN ?_ _ | refine kD ?_ | refine kA ?_ _)); exact BK548.out) hb); have n4_ := Aside0.mk (below_step (by repeat (first | (with_reducible first | exact HB.out | apply kL | apply kM | apply kE | refine kS ?_ GE537.out | refine kS ?_ GE542.out | refine kS ?_ GE548.out) | exact HB.out)) hb); clear HO589; clear BK537; clear BK542; clear BK548; clear HB; have HO589 := n0_; have BK537 := n1_; have BK542 := n2_; have BK548 := n3_; have HB := n4_; clear n0_ n1_ n2_ n3_ n4_; (try clear hb); (try clear hb2); (try clear hk); (try clear hi); have hnb78 := NB537_542.out; have hnc78 := NB542_537.out; obtain ⟨hcz79_0, hcz79_1, hcz79_2, hcz79_3, hcz79_4, hcz79_5, hcz79_6, hcz79_7, hcz79_8, hcz79_9, hcz79_10, hcz79_11, hcz79_12, hcz79_13, hcz79_14, hcz79_15, hfz79_0, hfz79_1, hfz79_2, hfz79_3, hfz79_4, hfz79_5, hfz79_6, hfz79_7, hfz79_8, hfz79_9, hfz79_10, hfz79_11, hfz79_12, hfz79_13, hfz79_14, hfz79_15⟩ := bxc16 BK537.out) | ((with_reducible refine gate_store (t := 27) (p := 2) rfl ?_); refine store_event (t := 27) (p := 2) (v := ?vo_w80) (w1 := ((((((((((((((((w77.setCell ⟨gb537, 0, none⟩ (.int .u8 0)).setCell ⟨gb537, 1, none⟩ (.int .i64 0)).setCell ⟨gb537, 2, none⟩ (.int .i64 0)).setCell ⟨gb537, 3, none⟩ (.int .i64 0)).setCell ⟨gb537, 4, none⟩ (.int .i64 0)).setCell ⟨gb537, 5, none⟩ (.int .u8 0)).setCell ⟨gb537, 6, none⟩ (.int .i64 0)).setCell ⟨gb537, 7, none⟩ (.int .i64 0)).setCell ⟨gb537, 8, none⟩ (.bool false)).setCell ⟨gb537, 9, none⟩ (.bool false)).setCell ⟨gb537, 10, none⟩ (.int .u8 0)).setCell ⟨gb537, 11, none⟩ (.int .i64 0)).setCell ⟨gb537, 12, none⟩ (.int .i64 0)).setCell ⟨gb537, 13, none⟩ (.int .i64 0)).setCell ⟨gb537, 14, none⟩ (.int .i64 0)).setCell ⟨gb537, 15, none⟩ (.int .u8 0))) ?hg ?ho ?hn ?hr ?_; (case ho => rfl); (case hg => rfl); (case hn => rfl); (case hr => first | exact Eq.trans (store_run (cells := #[.int .u8 0, .int .i64 0, .int .i64 0, .int .i64 0, .int .i64 0, .int .u8 0, .int .i64 0, .int .i64 0, .bool false, .bool false, .int .u8 0, .int .i64 0, .int .i64 0, .int .i64 0, .int .i64 0, .int .u8 0]) #[.int .u8 0, .int .i64 0, .int .i64 0, .int .i64 0, .int .i64 0, .int .u8 0, .int .i64 0, .int .i64 0, .bool false, .bool false, .int .u8 0, .int .i64 0, .int .i64 0, .int .i64 0, .int .i64 0, .int .u8 0] (by rfl) (by rfl) (by rfl) (BK537.out) (Nat.le_refl 16) (by kernel_rfl) (by kernel_rfl)) (by rfl) | (go_simp; done) | (go_simp; rfl)); intro w80 hw; have n0_ : Aside0 (Kd.Q (Kd.int .u8) 5 w80 w.heap.size (fun _ => True) v588 t587) := ⟨(by rw [hw]; exact (by (with_reducible repeat (first | apply Kd.Q_alloc | apply Kd.Q_drewN | apply Kd.Q_drew)); exact Kd.Q_mono (Kd.Q_far (p := ⟨gb537, 15, none⟩) (Kd.Q_far (p := ⟨gb537, 14, none⟩) (Kd.Q_far (p := ⟨gb537, 13, none⟩) (Kd.Q_far (p := ⟨gb537, 12, none⟩) (Kd.Q_far (p := ⟨gb537, 11, none⟩) (Kd.Q_far (p := ⟨gb537, 10, none⟩) (Kd.Q_far (p := ⟨gb537, 9, none⟩) (Kd.Q_far (p := ⟨gb537, 8, none⟩) (Kd.Q_far (p := ⟨gb537, 7, none⟩) (Kd.Q_far (p := ⟨gb537, 6, none⟩) (Kd.Q_far (p := ⟨gb537, 5, none⟩) (Kd.Q_far (p := ⟨gb537, 4, none⟩) (Kd.Q_far (p := ⟨gb537, 3, none⟩) (Kd.Q_far (p := ⟨gb537, 2, none⟩) (Kd.Q_far (p := ⟨gb537, 1, none⟩) (Kd.Q_far (p := ⟨gb537, 0, none⟩) (Kd.Q_types HO589.out BK537.out (by decide)) (fun _ hk => hk.2) (.int .u8 0)) (fun _ hk => hk.2) (.int .i64 0)) (fun _ hk => hk.2) (.int .i64 0)) (fun _ hk => hk.2) (.int .i64 0)) (fun _ hk => hk.2) (.int .i64 0)) (fun _ hk => hk.2) (.int .u8 0)) (fun _ hk => hk.2) (.int .i64 0)) (fun _ hk => hk.2) (.int .i64 0)) (fun _ hk => hk.2) (.bool false)) (fun _ hk => hk.2) (.bool false)) (fun _ hk => hk.2) (.int .u8 0)) (fun _ hk => hk.2) (.int .i64 0)) (fun _ hk => hk.2) (.int .i64 0)) (fun _ hk => hk.2) (.int .i64 0)) (fun _ hk => hk.2) (.int .i64 0)) (fun _ hk => hk.2) (.int .u8 0)) (fun _ hk => trivial)))⟩; have n1_ : Aside0 (w80.heap[gb537]? = some (.cells #[.int .u8 0, .int .i64 0, .int .i64 0, .int .i64 0, .int .i64 0, .int .u8 0, .int .i64 0, .int .i64 0, .bool false, .bool false, .int .u8 0, .int .i64 0, .int .i64 0, .int .i64 0, .int .i64 0, .int .u8 0] 27 (0, 0))) := ⟨(by rw [hw]; exact (by (with_reducible repeat (first | refine kN ?_ _ | refine kD ?_ | refine kA ?_ _)); refine bxw16 (.int .u8 0) (.int .i64 0) (.int .i64 0) (.int .i64 0) (.int .i64 0) (.int .u8 0) (.int .i64 0) (.int .i64 0) (.bool false) (.bool false) (.int .u8 0) (.int .i64 0) (.int .i64 0) (.int .i64 0) (.int .i64 0) (.int .u8 0) ?_; (with_reducible repeat (first | refine kN ?_ _ | refine kD ?_ | refine kA ?_ _)); exact BK537.out))⟩; have n2_ : Aside0 (w80.heap[gb542]? = some (.cells #[v588, .int .i64 t590] 60 (0, 0))) := ⟨(by rw [hw]; exact (by (with_reducible repeat (first | refine kN ?_ _ | refine kD ?_ | refine kA ?_ _)); refine kR ?_ NB542_537.out _; (with_reducible repeat (first | refine kN ?_ _ | refine kD ?_ | refine kA ?_ _)); refine kR ?_ NB542_537.out _; (with_reducible repeat (first | refine kN ?_ _ | refine kD ?_ | refine kA ?_ _)); refine kR ?_ NB542_537.out _; (with_reducible repeat (first | refine kN ?_ _ | refine kD ?_ | refine kA ?_ _)); refine kR ?_ NB542_537.out _; (with_reducible repeat (first | refine kN ?_ _ | refine kD ?_ | refine kA ?_ _)); refine kR ?_ NB542_537.out _; (with_reducible repeat (first | refine kN ?_ _ | refine kD ?_ | refine kA ?_ _)); refine kR ?_ NB542_537.out _; (with_reducible repeat (first | refine kN ?_ _ | refine kD ?_ | refine kA ?_ _)); refine kR ?_ NB542_537.out _; (with_reducible repeat (first | refine kN ?_ _ | refine kD ?_ | refine kA ?_ _)); refine kR ?_ NB542_537.out _; (with_reducible repeat (first | refine kN ?_ _ | refine kD ?_ | refine kA ?_ _)); refine kR ?_ NB542_537.out _; (with_reducible repeat (first | refine kN ?_ _ | refine kD ?_ | refine kA ?_ _)); refine kR ?_ NB542_537.out _; (with_reducible repeat (first | refine kN ?_ _ | refine kD ?_ | refine kA ?_ _)); refine kR ?_ NB542_537.out _; (with_reducible repeat (first | refine kN ?_ _ | refine kD ?_ | refine kA ?_ _)); refine kR ?_ NB542_537.out _; (with_reducible repeat (first | refine kN ?_ _ | refine kD ?_ | refine kA ?_ _)); refine kR ?_ NB542_537.out _; (with_reducible repeat (first | refine kN ?_ _ | refine kD ?_ | refine kA ?_ _)); refine kR ?_ NB542_537.out _; (with_reducible repeat (first | refine kN ?_ _ | refine kD ?_ | refine kA ?_ _)); refine kR ?_ NB542_537.out _; (with_reducible repeat (first | refine kN ?_ _ | refine kD ?_ | refine kA ?_ _)); refine kR ?_ NB542_537.out _; (with_reducible repeat (first | refine kN ?_ _ | refine kD ?_ | refine kA ?_ _)); exact BK542.out))⟩; have n3_ : Aside0 (w80.heap[gb548]? = some (.cells #[.int .u8 ((t543) % 256), .int .i64 x549001_3, .int .i64 x549002_3, .int .i64 x549003_3, .int .i64 x549004_3, .int .u8 x549005_3, .int .i64 x549006_3, .int .i64 x549007_3, .bool x549008_3, .bool x549009_3, .int .u8 x549010_3, .int .i64 x549011_3, .int .i64 x549012_3, .int .i64 x549013_3, .int .i64 x549014_3, .int .u8 x549015_3] 27 (0, 0))) := ⟨(by rw [hw]; exact (by (with_reducible repeat (first | refine kN ?_ _ | refine kD ?_ | refine kA ?_ _ | refine kR ?_ NB548_537.out _)); (with_reducible repeat (first | refine kN ?_ _ | refine kD ?_ | refine kA ?_ _)); exact BK548.out))⟩; have n4_ : Aside0 (Below w.heap.size w w80) := ⟨(by rw [hw]; exact (by repeat (first | (with_reducible first | exact HB.out | apply kL | apply kM | apply kE | refine kS ?_ GE537.out | refine kS ?_ GE542.out | refine kS ?_ GE548.out) | exact HB.out)))⟩; clear hw; clear HO589; clear BK537; clear BK542; clear BK548; clear HB; have HO589 := n0_; have BK537 := n1_; have BK542 := n2_; have BK548 := n3_; have HB := n4_; clear n0_ n1_ n2_ n3_ n4_))
     refine bodyPost_ret (results_ct rfl _ _ gb537 27 #[.int .u8 0, .int .i64 0, .int .i64 0, .int .i64 0, .int .i64 0, .int .u8 0, .int .i64 0, .int .i64 0, .bool false, .bool false, .int .u8 0, .int .i64 0, .int .i64 0, .int .i64 0, .int .i64 0, .int .u8 0] (0, 0) _ rfl (by (with_reducible repeat (first | refine kN ?_ _ | refine kD ?_ | refine kA ?_ _)); exact BK537.out) Try.underlying27 rfl (by kernel_rfl)) rfl ?_
     exact ⟨by first | rfl | (simp [errW_none, errW_some] <;> rfl) | (simp [*, errW_none, errW_some] <;> rfl), by repeat (first | (with_reducible first | exact HB.out | apply kL | apply kM | apply kE | refine kS ?_ GE537.out | refine kS ?_ GE542.out | refine kS ?_ GE548.out) | exact HB.out)⟩
   ·rw [if_neg c61] at H
    have c61b0 : (t586 == 0) = false := beq_eq_false_iff_ne.mpr c61
    have c61b1 : (t586 != 0) = true := bne_iff_ne.mpr c61
    simp only [Option.some.injEq, Prod.mk.injEq] at H
    obtain ⟨rfl, rfl, rfl, rfl, rfl, rfl, rfl, rfl, rfl, rfl, rfl, rfl, rfl, rfl, rfl, rfl, rfl⟩ := H
    go_wp2_with (first | ((with_reducible refine gate_callee (f := 23) rfl ?_); refine goesL_ (some 47) rfl rfl Try.func23 (by kernel_rfl) rfl #[.pointer (some ⟨gb542, 0, none⟩)] rfl (by (try simp only [List.map_toArray, List.map_cons, List.map_nil]); first | done | rfl | (simp only [List.length_drop, List.length_take]; rfl)) ?_; (with_reducible refine (pack_Box_End.calls gb542 (fun k_ => some k_ = (u543000 : Value).ownBlock) u543000 x543000_3 x543001_3 t586 t587 t590 w _ ?side1 ?side2 ?side3 ?side4 A60.out).mono ?_); (case side1 => repeat (first | (with_reducible first | exact HB.out | apply kL | apply kM | apply kE | refine kS ?_ GE537.out | refine kS ?_ GE542.out | refine kS ?_ GE548.out) | exact HB.out)); (case side2 => exact (by (with_reducible repeat (first | refine kN ?_ _ | refine kD ?_ | refine kA ?_ _)); exact BK542.out)); (case side3 => exact GE542.out); (case side4 => exact Kd.Q_tight rfl HO_543000.out); rintro e w81 ⟨v588, rfl, ho0, hi, hb, hkp⟩; refine ⟨_, rfl, ?_⟩; have n0_ := Aside0.mk (blk_kept (by (with_reducible repeat (first | refine kN ?_ _ | refine kD ?_ | refine kA ?_ _)); exact BK537.out) hkp (fun hs_ => Or.elim hs_ (fun hs_ => (fun e_ => (Kd.Q_ne HO_543000.out BK537.out (by decide)) e_) hs_) (fun e_ => NB537_542.out e_))); have n1_ := Aside0.mk (hi); have n2_ := Aside0.mk (blk_kept (by (with_reducible repeat (first | refine kN ?_ _ | refine kD ?_ | refine kA ?_ _)); exact BK548.out) hkp (fun hs_ => Or.elim hs_ (fun hs_ => (fun e_ => (Kd.Q_ne HO_543000.out BK548.out (by decide)) e_) hs_) (fun e_ => NB548_542.out e_))); have n3_ := Aside0.mk (Kd.Q_mono (ok' := fun k_ => True) ho0 (fun k_ hk_ => trivial)); have n4_ := Aside0.mk (hb); clear BK537; clear BK542; clear BK548; clear HB; clear HO_543000; have BK537 := n0_; have BK542 := n1_; have BK548 := n2_; have HO589 := n3_; have HB := n4_; clear n0_ n1_ n2_ n3_ n4_; (try clear hb); (try clear hkp); (try clear hi); (try clear ho0); have hnb82 := NB537_542.out; have hnc82 := NB542_537.out; have hnb83 := NB537_548.out; have hnc83 := NB548_537.out; obtain ⟨hcz84_0, hcz84_1, hcz84_2, hcz84_3, hcz84_4, hcz84_5, hcz84_6, hcz84_7, hcz84_8, hcz84_9, hcz84_10, hcz84_11, hcz84_12, hcz84_13, hcz84_14, hcz84_15, hfz84_0, hfz84_1, hfz84_2, hfz84_3, hfz84_4, hfz84_5, hfz84_6, hfz84_7, hfz84_8, hfz84_9, hfz84_10, hfz84_11, hfz84_12, hfz84_13, hfz84_14, hfz84_15⟩ := bxc16 BK537.out) | ((with_reducible refine gate_store (t := 27) (p := 2) rfl ?_); refine store_event (t := 27) (p := 2) (v := ?vo_w85) (w1 := ((((((((((((((((w81.setCell ⟨gb537, 0, none⟩ (.int .u8 0)).setCell ⟨gb537, 1, none⟩ (.int .i64 0)).setCell ⟨gb537, 2, none⟩ (.int .i64 0)).setCell ⟨gb537, 3, none⟩ (.int .i64 0)).setCell ⟨gb537, 4, none⟩ (.int .i64 0)).setCell ⟨gb537, 5, none⟩ (.int .u8 0)).setCell ⟨gb537, 6, none⟩ (.int .i64 0)).setCell ⟨gb537, 7, none⟩ (.int .i64 0)).setCell ⟨gb537, 8, none⟩ (.bool false)).setCell ⟨gb537, 9, none⟩ (.bool false)).setCell ⟨gb537, 10, none⟩ (.int .u8 0)).setCell ⟨gb537, 11, none⟩ (.int .i64 0)).setCell ⟨gb537, 12, none⟩ (.int .i64 0)).setCell ⟨gb537, 13, none⟩ (.int .i64 0)).setCell ⟨gb537, 14, none⟩ (.int .i64 0)).setCell ⟨gb537, 15, none⟩ (.int .u8 0))) ?hg ?ho ?hn ?hr ?_; (case ho => rfl); (case hg => rfl); (case hn => rfl); (case hr => first | exact Eq.trans (store_run (cells := #[.int .u8 0, .int .i64 0, .int .i64 0, .int .i64 0, .int .i64 0, .int .u8 0, .int .i64 0, .int .i64 0, .bool false, .bool false, .int .u8 0, .int .i64 0, .int .i64 0, .int .i64 0, .int .i64 0, .int .u8 0]) #[.int .u8 0, .int .i64 0, .int .i64 0, .int .i64 0, .int .i64 0, .int .u8 0, .int .i64 0, .int .i64 0, .bool false, .bool false, .int .u8 0, .int .i64 0, .int .i64 0, .int .i64 0, .int .i64 0, .int .u8 0] (by rfl) (by rfl) (by rfl) (BK537.out) (Nat.le_refl 16) (by kernel_rfl) (by kernel_rfl)) (by rfl) | (go_simp; done) | (go_simp; rfl)); intro w85 hw; have n0_ : Aside0 (Kd.Q (Kd.int .u8) 5 w85 w.heap.size (fun _ => True) v588 t587) := ⟨(by rw [hw]; exact (by (with_reducible repeat (first | apply Kd.Q_alloc | apply Kd.Q_drewN | apply Kd.Q_drew)); exact Kd.Q_mono (Kd.Q_far (p := ⟨gb537, 15, none⟩) (Kd.Q_far (p := ⟨gb537, 14, none⟩) (Kd.Q_far (p := ⟨gb537, 13, none⟩) (Kd.Q_far (p := ⟨gb537, 12, none⟩) (Kd.Q_far (p := ⟨gb537, 11, none⟩) (Kd.Q_far (p := ⟨gb537, 10, none⟩) (Kd.Q_far (p := ⟨gb537, 9, none⟩) (Kd.Q_far (p := ⟨gb537, 8, none⟩) (Kd.Q_far (p := ⟨gb537, 7, none⟩) (Kd.Q_far (p := ⟨gb537, 6, none⟩) (Kd.Q_far (p := ⟨gb537, 5, none⟩) (Kd.Q_far (p := ⟨gb537, 4, none⟩) (Kd.Q_far (p := ⟨gb537, 3, none⟩) (Kd.Q_far (p := ⟨gb537, 2, none⟩) (Kd.Q_far (p := ⟨gb537, 1, none⟩) (Kd.Q_far (p := ⟨gb537, 0, none⟩) (Kd.Q_types HO589.out BK537.out (by decide)) (fun _ hk => hk.2) (.int .u8 0)) (fun _ hk => hk.2) (.int .i64 0)) (fun _ hk => hk.2) (.int .i64 0)) (fun _ hk => hk.2) (.int .i64 0)) (fun _ hk => hk.2) (.int .i64 0)) (fun _ hk => hk.2) (.int .u8 0)) (fun _ hk => hk.2) (.int .i64 0)) (fun _ hk => hk.2) (.int .i64 0)) (fun _ hk => hk.2) (.bool false)) (fun _ hk => hk.2) (.bool false)) (fun _ hk => hk.2) (.int .u8 0)) (fun _ hk => hk.2) (.int .i64 0)) (fun _ hk => hk.2) (.int .i64 0)) (fun _ hk => hk.2) (.int .i64 0)) (fun _ hk => hk.2) (.int .i64 0)) (fun _ hk => hk.2) (.int .u8 0)) (fun _ hk => trivial)))⟩; have n1_ : Aside0 (w85.heap[gb537]? = some (.cells #[.int .u8 0, .int .i64 0, .int .i64 0, .int .i64 0, .int .i64 0, .int .u8 0, .int .i64 0, .int .i64 0, .bool false, .bool false, .int .u8 0, .int .i64 0, .int .i64 0, .int .i64 0, .int .i64 0, .int .u8 0] 27 (0, 0))) := ⟨(by rw [hw]; exact (by (with_reducible repeat (first | refine kN ?_ _ | refine kD ?_ | refine kA ?_ _)); refine bxw16 (.int .u8 0) (.int .i64 0) (.int .i64 0) (.int .i64 0) (.int .i64 0) (.int .u8 0) (.int .i64 0) (.int .i64 0) (.bool false) (.bool false) (.int .u8 0) (.int .i64 0) (.int .i64 0) (.int .i64 0) (.int .i64 0) (.int .u8 0) ?_; (with_reducible repeat (first | refine kN ?_ _ | refine kD ?_ | refine kA ?_ _)); exact BK537.out))⟩; have n2_ : Aside0 (w85.heap[gb542]? = some (.cells #[v588, .int .i64 t590] 60 (0, 0))) := ⟨(by rw [hw]; exact (by (with_reducible repeat (first | refine kN ?_ _ | refine kD ?_ | refine kA ?_ _)); refine kR ?_ NB542_537.out _; (with_reducible repeat (first | refine kN ?_ _ | refine kD ?_ | refine kA ?_ _)); refine kR ?_ NB542_537.out _; (with_reducible repeat (first | refine kN ?_ _ | refine kD ?_ | refine kA ?_ _)); refine kR ?_ NB542_537.out _; (with_reducible repeat (first | refine kN ?_ _ | refine kD ?_ | refine kA ?_ _)); refine kR ?_ NB542_537.out _; (with_reducible repeat (first | refine kN ?_ _ | refine kD ?_ | refine kA ?_ _)); refine kR ?_ NB542_537.out _; (with_reducible repeat (first | refine kN ?_ _ | refine kD ?_ | refine kA ?_ _)); refine kR ?_ NB542_537.out _; (with_reducible repeat (first | refine kN ?_ _ | refine kD ?_ | refine kA ?_ _)); refine kR ?_ NB542_537.out _; (with_reducible repeat (first | refine kN ?_ _ | refine kD ?_ | refine kA ?_ _)); refine kR ?_ NB542_537.out _; (with_reducible repeat (first | refine kN ?_ _ | refine kD ?_ | refine kA ?_ _)); refine kR ?_ NB542_537.out _; (with_reducible repeat (first | refine kN ?_ _ | refine kD ?_ | refine kA ?_ _)); refine kR ?_ NB542_537.out _; (with_reducible repeat (first | refine kN ?_ _ | refine kD ?_ | refine kA ?_ _)); refine kR ?_ NB542_537.out _; (with_reducible repeat (first | refine kN ?_ _ | refine kD ?_ | refine kA ?_ _)); refine kR ?_ NB542_537.out _; (with_reducible repeat (first | refine kN ?_ _ | refine kD ?_ | refine kA ?_ _)); refine kR ?_ NB542_537.out _; (with_reducible repeat (first | refine kN ?_ _ | refine kD ?_ | refine kA ?_ _)); refine kR ?_ NB542_537.out _; (with_reducible repeat (first | refine kN ?_ _ | refine kD ?_ | refine kA ?_ _)); refine kR ?_ NB542_537.out _; (with_reducible repeat (first | refine kN ?_ _ | refine kD ?_ | refine kA ?_ _)); refine kR ?_ NB542_537.out _; (with_reducible repeat (first | refine kN ?_ _ | refine kD ?_ | refine kA ?_ _)); exact BK542.out))⟩; have n3_ : Aside0 (w85.heap[gb548]? = some (.cells #[.int .u8 ((t543) % 256), .int .i64 x549001_3, .int .i64 x549002_3, .int .i64 x549003_3, .int .i64 x549004_3, .int .u8 x549005_3, .int .i64 x549006_3, .int .i64 x549007_3, .bool x549008_3, .bool x549009_3, .int .u8 x549010_3, .int .i64 x549011_3, .int .i64 x549012_3, .int .i64 x549013_3, .int .i64 x549014_3, .int .u8 x549015_3] 27 (0, 0))) := ⟨(by rw [hw]; exact (by (with_reducible repeat (first | refine kN ?_ _ | refine kD ?_ | refine kA ?_ _ | refine kR ?_ NB548_537.out _)); (with_reducible repeat (first | refine kN ?_ _ | refine kD ?_ | refine kA ?_ _)); exact BK548.out))⟩; have n4_ : Aside0 (Below w.heap.size w w85) := ⟨(by rw [hw]; exact (by repeat (first | (with_reducible first | exact HB.out | apply kL | apply kM | apply kE | refine kS ?_ GE537.out | refine kS ?_ GE542.out | refine kS ?_ GE548.out) | exact HB.out)))⟩; clear hw; clear HO589; clear BK537; clear BK542; clear BK548; clear HB; have HO589 := n0_; have BK537 := n1_; have BK542 := n2_; have BK548 := n3_; have HB := n4_; clear n0_ n1_ n2_ n3_ n4_))
    refine bodyPost_ret (results_ct rfl _ _ gb537 27 #[.int .u8 0, .int .i64 0, .int .i64 0, .int .i64 0, .int .i64 0, .int .u8 0, .int .i64 0, .int .i64 0, .bool false, .bool false, .int .u8 0, .int .i64 0, .int .i64 0, .int .i64 0, .int .i64 0, .int .u8 0] (0, 0) _ rfl (by (with_reducible repeat (first | refine kN ?_ _ | refine kD ?_ | refine kA ?_ _)); exact BK537.out) Try.underlying27 rfl (by kernel_rfl)) rfl ?_
    exact ⟨by first | rfl | (simp [errW_none, errW_some] <;> rfl) | (simp [*, errW_none, errW_some] <;> rfl), by repeat (first | (with_reducible first | exact HB.out | apply kL | apply kM | apply kE | refine kS ?_ GE537.out | refine kS ?_ GE542.out | refine kS ?_ GE548.out) | exact HB.out)⟩

end Go.Proofs.Ytlihgjonmliodaa.PA
