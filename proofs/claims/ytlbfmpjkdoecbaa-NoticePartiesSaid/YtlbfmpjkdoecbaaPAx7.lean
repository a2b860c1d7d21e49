-- printed by this workplace: wip/patchprint.py over the kit's print
import Derived.Test.YtlbfmpjkdoecbaaPAx0
import Derived.Test.YtlbfmpjkdoecbaaPAx1
import Derived.Test.YtlbfmpjkdoecbaaPAx2
import Derived.Test.YtlbfmpjkdoecbaaPAx3
import Derived.Test.YtlbfmpjkdoecbaaPAx4
import Derived.Test.YtlbfmpjkdoecbaaPAx5
import Derived.Test.YtlbfmpjkdoecbaaPAx6
namespace Go.Proofs.Ytlbfmpjkdoecbaa.PA
open Go.RowKit Go.Proofs.YtlbfmpjkdoecbaaW.PrintWords Go.Proofs.YtlbfmpjkdoecbaaW.PrintLast Go.Proofs.YtlbfmpjkdoecbaaW.PrintMore
attribute [local go_sem] max2_int min2_int max_two min_two max_three min_three max_four min_four   -- for this text's walks alone
set_option linter.unusedVariables false
set_option linter.unusedSimpArgs false

attribute [local go_sem high] eqA23
/-! ### paybooklaw11_NoticeParties: function 3 -/
def paybooklaw11_NoticeParties.j0 : Nat → Int → Int → Int → Int → Int → Int → Int → Int → Option (Bool)
 | 0, _, _, _, _, _, _, _, _ => none
 | k + 1, x1, x5, x124000, x124001, x124002, x124003, x124004, x124005 => (notice_Answer.f x124000 x124001 x124002 x124003 x124004 x124005 x1).bind fun bt134 => ((notice_Asked.f bt134.1 bt134.2.1 bt134.2.2.1 bt134.2.2.2.1 bt134.2.2.2.2.1 bt134.2.2.2.2.2).bind fun bt141 => ((paybooklaw11_awake.f k).bind fun t149 => (if t149 = true then ((notice_Asked.f x124000 x124001 x124002 x124003 x124004 0).bind fun bt150 => ((notice_Party.f k bt150.1 bt150.2.1 bt150.2.2.1 bt150.2.2.2.1 bt150.2.2.2.2.1 bt150.2.2.2.2.2).bind fun t156 => ((some (([0, 0, 1, 1, 2] : List Int) : List Int)).bind fun y157 => (if 0 ≤ ((x124000 - 1) % 256) then (if ((x124000 - 1) % 256) < (y157.length : Int) then (if t156 = (rd y157 ((x124000 - 1) % 256)) then (if (bt134.1 == x124000 && (bt134.2.1 == x124001 && (bt134.2.2.1 == x124002 && (bt134.2.2.2.1 == x124003 && (bt134.2.2.2.2.1 == x124004 && (bt134.2.2.2.2.2 == x1)))))) = true then (if (bt141.1 == x124000 && (bt141.2.1 == x124001 && (bt141.2.2.1 == x124002 && (bt141.2.2.2.1 == x124003 && (bt141.2.2.2.2.1 == x124004 && (bt141.2.2.2.2.2 == 0)))))) = true then (if x5 < 3 then (some true) else (some (x5 == 3))) else (some false)) else (some false)) else (some false)) else (none)) else (none))))) else (some false))))
def paybooklaw11_NoticeParties.f (k : Nat) (a0_0 : Int) (a0_1 : Int) (a0_2 : Int) (a0_3 : Int) (a0_4 : Int) (a0_5 : Int) (a1 : Int) : Option (Bool) := (paybooklaw11_near.f a0_0 a0_1 a0_2 a0_3 a0_4 a0_5).bind fun bt124 => ((some (([0, 0, 1, 1, 2] : List Int) : List Int)).bind fun y130 => (if 0 ≤ ((bt124.1 - 1) % 256) then (if ((bt124.1 - 1) % 256) < (y130.length : Int) then (if bt124.2.2.2.2.2 = 0 then (paybooklaw11_NoticeParties.j0 k a1 (rd y130 ((bt124.1 - 1) % 256)) bt124.1 bt124.2.1 bt124.2.2.1 bt124.2.2.2.1 bt124.2.2.2.2.1 bt124.2.2.2.2.2) else (paybooklaw11_NoticeParties.j0 k a1 3 bt124.1 bt124.2.1 bt124.2.2.1 bt124.2.2.2.1 bt124.2.2.2.2.1 bt124.2.2.2.2.2)) else (none)) else (none)))
theorem paybooklaw11_NoticeParties.mono_l : ∀ k, (∀ y0 y1 y2 y3 y4 y5 y6 y7, LeO (paybooklaw11_NoticeParties.j0 k y0 y1 y2 y3 y4 y5 y6 y7) (paybooklaw11_NoticeParties.j0 (k + 1) y0 y1 y2 y3 y4 y5 y6 y7))
 | 0 => fun _ _ _ _ _ _ _ _ r h => by simp [paybooklaw11_NoticeParties.j0] at h
 | k + 1 => by
  have ih0 := paybooklaw11_NoticeParties.mono_l k
  ·intro y0 y1 y2 y3 y4 y5 y6 y7
   unfold paybooklaw11_NoticeParties.j0
   repeat' first
   | (with_reducible exact ih0 _ _ _ _ _ _ _ _)
   | (with_reducible exact notice_Party.mono _ _ _ _ _ _ _)
   | (with_reducible exact paybooklaw11_awake.mono _)
   | (with_reducible exact LeO.refl _)
   | (with_reducible exact LeO.none _)
   | (with_reducible refine LeO.ite ?_ ?_)
   | (with_reducible refine LeO.bind ?_ (fun _ => ?_))
   | exact ih0 _ _ _ _ _ _ _ _
   | exact notice_Party.mono _ _ _ _ _ _ _
   | exact paybooklaw11_awake.mono _
   | exact LeO.none _
   | refine LeO.ite ?_ ?_
   | refine LeO.bind ?_ (fun _ => ?_)
theorem paybooklaw11_NoticeParties.mono : ∀ a0 a1 a2 a3 a4 a5 a6 k, LeO (paybooklaw11_NoticeParties.f k a0 a1 a2 a3 a4 a5 a6) (paybooklaw11_NoticeParties.f (k + 1) a0 a1 a2 a3 a4 a5 a6) := by
 intro a0 a1 a2 a3 a4 a5 a6 k
 have ih0 := paybooklaw11_NoticeParties.mono_l k
 unfold paybooklaw11_NoticeParties.f
 repeat' first
   | (with_reducible exact ih0 _ _ _ _ _ _ _ _)
   | (with_reducible exact notice_Party.mono _ _ _ _ _ _ _)
   | (with_reducible exact paybooklaw11_awake.mono _)
   | (with_reducible exact LeO.refl _)
   | (with_reducible exact LeO.none _)
   | (with_reducible refine LeO.ite ?_ ?_)
   | (with_reducible refine LeO.bind ?_ (fun _ => ?_))
   | exact ih0 _ _ _ _ _ _ _ _
   | exact notice_Party.mono _ _ _ _ _ _ _
   | exact paybooklaw11_awake.mono _
   | exact LeO.none _
   | refine LeO.ite ?_ ?_
   | refine LeO.bind ?_ (fun _ => ?_)
def paybooklaw11_NoticeParties.T10 : Bool × List (List Nat × List Nat) := (true, [([], []), ([0, 0], [0]), ([1], [1]), ([2, 1, 1], [1, 2]), ([3, 3, 1], [1, 3]), ([1], [1]), ([1], [1]), ([6, 1], [1, 6]), ([7, 1], [1, 7]), ([5, 8, 1], [1, 5, 8]), ([9, 1], [1, 9]), ([4, 10, 1], [1, 4, 10]), ([1, 11], [1, 11]), ([12, 4], [12]), ([13], [13]), ([13], [13]), ([14, 15, 13], [13, 14, 15]), ([13, 16], [13, 16]), ([17, 13], [17]), ([18], [18]), ([18], [18]), ([19, 20, 18], [18, 19, 20]), ([18, 21], [18, 21]), ([22, 18], [22]), ([23], [23]), ([24, 23], [23, 24]), ([25, 23, 23], [23, 25]), ([26], [26]), ([27, 26], [26, 27]), ([26, 28, 23], [23, 26, 28]), ([23, 29], [23, 29]), ([30, 26, 0, 1, 2, 3, 4, 5, 6, 7, 8, 9, 10, 11, 12, 13, 14, 15, 16, 17, 18, 19, 20, 21, 22, 23, 24, 25, 26, 27, 28, 29, 30], [30])])
def paybooklaw11_NoticeParties.B10 : List Nat := [0, 1, 3, 7, 15, 3, 3, 67, 195, 483, 995, 2047, 4095, 8191, 16383, 16383, 65535, 131071, 262143, 524287, 524287, 2097151, 4194303, 8388607, 16777215, 33554431, 67108863, 134217727, 268435455, 536870911, 1073741823, 2147483647]
theorem paybooklaw11_NoticeParties.tab10 : rtab .any (opsOf Try.f3 10) = paybooklaw11_NoticeParties.T10 := by kernel_rfl
theorem paybooklaw11_NoticeParties.bits10 : waitsOk paybooklaw11_NoticeParties.T10.2 paybooklaw11_NoticeParties.B10 = true := by kernel_rfl
set_option maxHeartbeats 40000000 in
set_option maxRecDepth 100000 in
theorem paybooklaw11_NoticeParties.calls (k : Nat) (a0_0 : Int) (a0_1 : Int) (a0_2 : Int) (a0_3 : Int) (a0_4 : Int) (a0_5 : Int) (a1 : Int) (w : World) (h : paybooklaw11_NoticeParties.f k a0_0 a0_1 a0_2 a0_3 a0_4 a0_5 a1 = some true) :
  Calls Try.prog 3 #[.agg #[.int .u8 a0_0, .int .i64 a0_1, .int .i64 a0_2, .int .i64 a0_3, .int .i64 a0_4, .int .u8 a0_5], .int .u8 a1] w fun e w' => e = .returned (.bool true) ∧ Below w.heap.size w w' := by
 have hu23 := Try.underlying23
 have HB := Aside0.mk (Below.refl w.heap.size w)
 have H : ((paybooklaw11_near.f a0_0 a0_1 a0_2 a0_3 a0_4 a0_5).bind fun bt124 => ((some (([0, 0, 1, 1, 2] : List Int) : List Int)).bind fun y130 => (if 0 ≤ ((bt124.1 - 1) % 256) then (if ((bt124.1 - 1) % 256) < (y130.length : Int) then (if bt124.2.2.2.2.2 = 0 then (paybooklaw11_NoticeParties.j0 k a1 (rd y130 ((bt124.1 - 1) % 256)) bt124.1 bt124.2.1 bt124.2.2.1 bt124.2.2.2.1 bt124.2.2.2.2.1 bt124.2.2.2.2.2) else (paybooklaw11_NoticeParties.j0 k a1 3 bt124.1 bt124.2.1 bt124.2.2.1 bt124.2.2.2.1 bt124.2.2.2.2.1 bt124.2.2.2.2.2)) else (none)) else (none)))) = some true := h
 clear h
 replace H := Option.bind_eq_some_iff.mp H
 obtain ⟨⟨t124, t125, t126, t127, t128, t129⟩, A30, H⟩ := H
 replace H : ((some (([0, 0, 1, 1, 2] : List Int) : List Int)).bind fun y130 => (if 0 ≤ ((t124 - 1) % 256) then (if ((t124 - 1) % 256) < (y130.length : Int) then (if t129 = 0 then (paybooklaw11_NoticeParties.j0 k a1 (rd y130 ((t124 - 1) % 256)) t124 t125 t126 t127 t128 t129) else (paybooklaw11_NoticeParties.j0 k a1 3 t124 t125 t126 t127 t128 t129)) else (none)) else (none))) = some true := H
 have A3 := Aside0.mk A30
 clear A30
 obtain ⟨y130, hy130⟩ : ∃ y_ : List Int, y_ = (([0, 0, 1, 1, 2] : List Int)) := ⟨_, rfl⟩
 replace H : (if 0 ≤ ((t124 - 1) % 256) then (if ((t124 - 1) % 256) < (y130.length : Int) then (if t129 = 0 then (paybooklaw11_NoticeParties.j0 k a1 (rd y130 ((t124 - 1) % 256)) t124 t125 t126 t127 t128 t129) else (paybooklaw11_NoticeParties.j0 k a1 3 t124 t125 t126 t127 t128 t129)) else (none)) else (none)) = some true := by first | (rw [hy130]; with_reducible exact H) | (have H2_ := (Option.bind_some _ _).symm.trans H; rw [hy130]; with_reducible exact H2_) | (have H2_ := (Option.bind_some _ _).symm.trans H; with_reducible exact H2_) | with_reducible exact H | (rw [hy130]; exact H) | exact H
 have Ny130 := Aside0.mk hy130
 clear hy130
 obtain ⟨ji4, hji4⟩ : ∃ j_ : Int, ((t124 - 1) % 256) = j_ := ⟨_, rfl⟩
 replace H : (if 0 ≤ (ji4) then (if (ji4) < (y130.length : Int) then (if t129 = 0 then (paybooklaw11_NoticeParties.j0 k a1 (rd y130 (ji4)) t124 t125 t126 t127 t128 t129) else (paybooklaw11_NoticeParties.j0 k a1 3 t124 t125 t126 t127 t128 t129)) else (none)) else (none)) = some true := by first | (rw [hji4] at H; try exact H) | (simp only [hji4] at H ⊢; exact H)
 (try rw [hji4] at A3)
 have hji4w : (IntKind.u8.wrap (t124 - 1)) = ji4 := (IntKind.wrap_u8 _).trans hji4
 by_cases c5 : 0 ≤ (ji4)
 ·rw [if_pos c5] at H
  have c5b0 : decide (0 ≤ (ji4)) = true := decide_eq_true c5
  clear c5
  by_cases c6 : (ji4) < (y130.length : Int)
  ·rw [if_pos c6] at H
   have c6b0 : decide ((ji4) < (y130.length : Int)) = true := decide_eq_true c6
   clear c6
   have HC7 := Aside0.mk H
   clear H
   go_enter Try.func3, Try.ntmps3
   go_upto_if 19 with (first | ((with_reducible refine gate_dst (N := 2) rfl ?_); (try (refine gate_guard (by rfl) ?_; dsimp only)); refine box_event ?hg (N := 2) ?hd (cs := #[.int .u8 a0_0, .int .i64 a0_1, .int .i64 a0_2, .int .i64 a0_3, .int .i64 a0_4, .int .u8 a0_5]) (t := 23) ?hr ?_; (case hd => rfl); (case hg => rfl); (case hr => first | (go_simp; done) | (go_simp; rfl)); intro gb123 hg w8 hbox hb; have n0_ := Aside0.mk (below_step (by repeat (first | (with_reducible first | exact HB.out | apply kL | apply kM | apply kE) | exact HB.out)) hb); have n1_ := Aside0.mk (hbox); have n2_ := Aside0.mk ((by rw [hg]; exact (below_size (by repeat (first | (with_reducible first | exact HB.out | apply kL | apply kM | apply kE) | exact HB.out))) : w.heap.size ≤ gb123)); have n3_ := Aside0.mk ((by rw [hg]; exact (below_size (by repeat (first | (with_reducible first | exact HB.out | apply kL | apply kM | apply kE) | exact HB.out))) : w.heap.size ≤ gb123)); clear HB; have HB := n0_; have BK123 := n1_; have GW123 := n2_; have GE123 := n3_; clear n0_ n1_ n2_ n3_; clear hb hbox hg; have hcz9_0 : w8.cell? ⟨gb123, 0, none⟩ = some (.int .u8 a0_0) := (kC BK123.out 0).trans rfl; have hcz9_1 : w8.cell? ⟨gb123, 1, none⟩ = some (.int .i64 a0_1) := (kC BK123.out 1).trans rfl; have hcz9_2 : w8.cell? ⟨gb123, 2, none⟩ = some (.int .i64 a0_2) := (kC BK123.out 2).trans rfl; have hcz9_3 : w8.cell? ⟨gb123, 3, none⟩ = some (.int .i64 a0_3) := (kC BK123.out 3).trans rfl; have hcz9_4 : w8.cell? ⟨gb123, 4, none⟩ = some (.int .i64 a0_4) := (kC BK123.out 4).trans rfl; have hcz9_5 : w8.cell? ⟨gb123, 5, none⟩ = some (.int .u8 a0_5) := (kC BK123.out 5).trans rfl; have hfz9_0 := kF BK123.out 0; have hfz9_1 := kF BK123.out 1; have hfz9_2 := kF BK123.out 2; have hfz9_3 := kF BK123.out 3; have hfz9_4 := kF BK123.out 4; have hfz9_5 := kF BK123.out 5) | ((with_reducible refine gate_callee (f := 5) rfl ?_); refine goesL_ (some 10) rfl rfl Try.func5 (by kernel_rfl) rfl #[.agg #[.int .u8 a0_0, .int .i64 a0_1, .int .i64 a0_2, .int .i64 a0_3, .int .i64 a0_4, .int .u8 a0_5]] rfl (by (try simp only [List.map_toArray, List.map_cons, List.map_nil]); first | done | rfl | (simp only [List.length_drop, List.length_take]; rfl)) ?_; (with_reducible refine (paybooklaw11_near.calls a0_0 a0_1 a0_2 a0_3 a0_4 a0_5 t124 t125 t126 t127 t128 t129 _ A3.out).mono ?_); rintro e w10 ⟨rfl, hb⟩; refine ⟨_, rfl, ?_⟩; have n0_ := Aside0.mk (blk_below (g := gb123) (o := .cells #[.int .u8 a0_0, .int .i64 a0_1, .int .i64 a0_2, .int .i64 a0_3, .int .i64 a0_4, .int .u8 a0_5] 23 (0, 0)) (by (with_reducible repeat (first | refine kN ?_ _ | refine kD ?_ | refine kA ?_ _)); exact BK123.out) hb); have n1_ := Aside0.mk (below_step (by repeat (first | (with_reducible first | exact HB.out | apply kL | apply kM | apply kE | refine kS ?_ GE123.out) | exact HB.out)) hb); clear BK123; clear HB; have BK123 := n0_; have HB := n1_; clear n0_ n1_; (try clear hb); (try clear hb2); (try clear hk); (try clear hi); have hcz11_0 : w10.cell? ⟨gb123, 0, none⟩ = some (.int .u8 a0_0) := (kC BK123.out 0).trans rfl; have hcz11_1 : w10.cell? ⟨gb123, 1, none⟩ = some (.int .i64 a0_1) := (kC BK123.out 1).trans rfl; have hcz11_2 : w10.cell? ⟨gb123, 2, none⟩ = some (.int .i64 a0_2) := (kC BK123.out 2).trans rfl; have hcz11_3 : w10.cell? ⟨gb123, 3, none⟩ = some (.int .i64 a0_3) := (kC BK123.out 3).trans rfl; have hcz11_4 : w10.cell? ⟨gb123, 4, none⟩ = some (.int .i64 a0_4) := (kC BK123.out 4).trans rfl; have hcz11_5 : w10.cell? ⟨gb123, 5, none⟩ = some (.int .u8 a0_5) := (kC BK123.out 5).trans rfl; have hfz11_0 := kF BK123.out 0; have hfz11_1 := kF BK123.out 1; have hfz11_2 := kF BK123.out 2; have hfz11_3 := kF BK123.out 3; have hfz11_4 := kF BK123.out 4; have hfz11_5 := kF BK123.out 5) | ((with_reducible refine gate_dst (N := 11) rfl ?_); (try (refine gate_guard (by rfl) ?_; dsimp only)); refine Kd.R_lit (Kd.int .u8) _ 5 ?hg (N := 11) ?hd (xs := ([0, 0, 1, 1, 2] : List Int)) (inner := [.int .u8 0, .int .u8 0, .int .u8 1, .int .u8 1, .int .u8 2]) (ok := fun _ => True) (okp := fun _ => True) ?hr ?hp (fun _ hk => hk) trivial (Below.refl _ _) (Nat.le_refl _) (by simp) ?_; (case hd => rfl); (case hg => rfl); (case hr => first | (go_simp; done) | (go_simp; rfl)); (case hp => exact (Reps.one (show Kd.M (Kd.int .u8) _ _ _ 0 [.int .u8 0] from rfl) (Reps.one (show Kd.M (Kd.int .u8) _ _ _ 0 [.int .u8 0] from rfl) (Reps.one (show Kd.M (Kd.int .u8) _ _ _ 1 [.int .u8 1] from rfl) (Reps.one (show Kd.M (Kd.int .u8) _ _ _ 1 [.int .u8 1] from rfl) (Reps.one (show Kd.M (Kd.int .u8) _ _ _ 2 [.int .u8 2] from rfl) (Reps.none _ _))))))); intro v131 w12 ho13 hb hg_ hnew_; clear hg_ hnew_; (first | rw [← Ny130.out] at ho13 | (simp only [Int.reduceToNat] at ho13; rw [← Ny130.out] at ho13)); have n0_ := Aside0.mk (Kd.R_lower ho13 (below_size (by repeat (first | (with_reducible first | exact HB.out | apply kL | apply kM | apply kE | refine kS ?_ GE123.out) | exact HB.out)))); have n1_ := Aside0.mk (blk_below (g := gb123) (o := .cells #[.int .u8 t124, .int .i64 t125, .int .i64 t126, .int .i64 t127, .int .i64 t128, .int .u8 t129] 23 (0, 0)) (by (with_reducible repeat (first | refine kN ?_ _ | refine kD ?_ | refine kA ?_ _)); refine kP (cs := #[.int .u8 t124, .int .i64 t125, .int .i64 t126, .int .i64 t127, .int .i64 t128, .int .u8 a0_5]) ?_ 5 _ rfl; (with_reducible repeat (first | refine kN ?_ _ | refine kD ?_ | refine kA ?_ _)); refine kP (cs := #[.int .u8 t124, .int .i64 t125, .int .i64 t126, .int .i64 t127, .int .i64 a0_4, .int .u8 a0_5]) ?_ 4 _ rfl; (with_reducible repeat (first | refine kN ?_ _ | refine kD ?_ | refine kA ?_ _)); refine kP (cs := #[.int .u8 t124, .int .i64 t125, .int .i64 t126, .int .i64 a0_3, .int .i64 a0_4, .int .u8 a0_5]) ?_ 3 _ rfl; (with_reducible repeat (first | refine kN ?_ _ | refine kD ?_ | refine kA ?_ _)); refine kP (cs := #[.int .u8 t124, .int .i64 t125, .int .i64 a0_2, .int .i64 a0_3, .int .i64 a0_4, .int .u8 a0_5]) ?_ 2 _ rfl; (with_reducible repeat (first | refine kN ?_ _ | refine kD ?_ | refine kA ?_ _)); refine kP (cs := #[.int .u8 t124, .int .i64 a0_1, .int .i64 a0_2, .int .i64 a0_3, .int .i64 a0_4, .int .u8 a0_5]) ?_ 1 _ rfl; (with_reducible repeat (first | refine kN ?_ _ | refine kD ?_ | refine kA ?_ _)); refine kP (cs := #[.int .u8 a0_0, .int .i64 a0_1, .int .i64 a0_2, .int .i64 a0_3, .int .i64 a0_4, .int .u8 a0_5]) ?_ 0 _ rfl; (with_reducible repeat (first | refine kN ?_ _ | refine kD ?_ | refine kA ?_ _)); exact BK123.out) hb); have n2_ := Aside0.mk (below_step (by repeat (first | (with_reducible first | exact HB.out | apply kL | apply kM | apply kE | refine kS ?_ GE123.out) | exact HB.out)) hb); clear BK123; clear HB; have HO132 := n0_; have BK123 := n1_; have HB := n2_; clear n0_ n1_ n2_; clear hb ho13; have hcz14_0 : w12.cell? ⟨gb123, 0, none⟩ = some (.int .u8 t124) := (kC BK123.out 0).trans rfl; have hcz14_1 : w12.cell? ⟨gb123, 1, none⟩ = some (.int .i64 t125) := (kC BK123.out 1).trans rfl; have hcz14_2 : w12.cell? ⟨gb123, 2, none⟩ = some (.int .i64 t126) := (kC BK123.out 2).trans rfl; have hcz14_3 : w12.cell? ⟨gb123, 3, none⟩ = some (.int .i64 t127) := (kC BK123.out 3).trans rfl; have hcz14_4 : w12.cell? ⟨gb123, 4, none⟩ = some (.int .i64 t128) := (kC BK123.out 4).trans rfl; have hcz14_5 : w12.cell? ⟨gb123, 5, none⟩ = some (.int .u8 t129) := (kC BK123.out 5).trans rfl; have hfz14_0 := kF BK123.out 0; have hfz14_1 := kF BK123.out 1; have hfz14_2 := kF BK123.out 2; have hfz14_3 := kF BK123.out 3; have hfz14_4 := kF BK123.out 4; have hfz14_5 := kF BK123.out 5; obtain ⟨Ao15, co15, eo15⟩ := Kd.R_slice HO132.out; subst eo15; have p133 : 0 ≤ ((ji4) : Int) := of_decide_eq_true (by first | (with_reducible assumption) | assumption); have q133 : (ji4) < (y130.length : Int) := of_decide_eq_true (by first | (with_reducible assumption) | assumption); obtain ⟨ad133, e133, hx133_0⟩ := Kd.at_int (Kd.R_reads' HO132.out).2.2 (ji4) p133 q133; cases e133; replace p133 := eq_true p133; replace q133 := eq_true q133))
   (try simp only [Act.put, List.setIfInBounds_toArray, List.set_cons_zero, List.set_cons_succ])
   go_cut [5] (fun v5 wc => ∃ (kq : Nat) (x5_6 : Int), v5 = .int .u8 x5_6 ∧ Aside0 (paybooklaw11_NoticeParties.j0 kq a1 x5_6 t124 t125 t126 t127 t128 t129 = some true) ∧ Aside0 (kq ≤ k) ∧ Aside0 (wc.heap[gb123]? = some (.cells #[.int .u8 t124, .int .i64 t125, .int .i64 t126, .int .i64 t127, .int .i64 t128, .int .u8 t129] 23 (0, 0))) ∧ Aside0 (Below w.heap.size w wc))
   case first =>
    have H := HC7.out
    clear HC7
    by_cases c16 : t129 = 0
    ·rw [if_pos c16] at H
     have c16b0 : (t129 == 0) = true := beq_iff_eq.mpr c16
     have c16b1 : (t129 != 0) = false := bne_eq_false_iff_eq.mpr c16
     clear c16
     (first | (generalize hg_ : (t129 == 0) = bg_ at *; subst c16b0; have c16b0 := hg_; clear hg_) | rw [c16b0] | (simp only [i64_w, i32_w]; rw [c16b0]) | skip)
     have H' := Aside0.mk H
     clear H
     go_wp2
     go_meet
     case rel => exact ⟨_, (rd y130 (ji4)), (by first | rfl | (simp; done) | (simp only [← hji4] <;> (first | rfl | simp)) | (simp [*]; done)), H', ⟨by first | omega | exact Nat.le_refl _⟩, ⟨by (with_reducible repeat (first | refine kN ?_ _ | refine kD ?_ | refine kA ?_ _)); exact BK123.out⟩, ⟨by repeat (first | (with_reducible first | exact HB.out | apply kL | apply kM | apply kE | refine kS ?_ GE123.out) | exact HB.out)⟩⟩
    ·rw [if_neg c16] at H
     have c16b0 : (t129 == 0) = false := beq_eq_false_iff_ne.mpr c16
     have c16b1 : (t129 != 0) = true := bne_iff_ne.mpr c16
     (first | (generalize hg_ : (t129 == 0) = bg_ at *; subst c16b0; have c16b0 := hg_; clear hg_) | rw [c16b0] | (simp only [i64_w, i32_w]; rw [c16b0]) | skip)
     have H' := Aside0.mk H
     clear H
     go_wp2
     go_meet
     case rel => exact ⟨_, (3), (by first | rfl | (simp; done) | (simp [*]; done)), H', ⟨by first | omega | exact Nat.le_refl _⟩, ⟨by (with_reducible repeat (first | refine kN ?_ _ | refine kD ?_ | refine kA ?_ _)); exact BK123.out⟩, ⟨by repeat (first | (with_reducible first | exact HB.out | apply kL | apply kM | apply kE | refine kS ?_ GE123.out) | exact HB.out)⟩⟩
   case rest =>
    clear HC7
    try clear c1
    try clear p1
    try clear q1
    try clear hx1
    try clear p2
    try clear c3
    try clear c5
    try clear c5b0
    try clear c6
    try clear c6b0
    try clear p13
    try clear q13
    try clear hx13
    try clear c16
    try clear c16b0
    try clear c16b1
    try clear hcz11_0
    try clear hcz11_1
    try clear hcz11_2
    try clear hcz11_3
    try clear hcz11_4
    try clear hcz11_5
    try clear hcz14_0
    try clear hcz14_1
    try clear hcz14_2
    try clear hcz14_3
    try clear hcz14_4
    try clear hcz14_5
    try clear hcz9_0
    try clear hcz9_1
    try clear hcz9_2
    try clear hcz9_3
    try clear hcz9_4
    try clear hcz9_5
    try clear hfz11_0
    try clear hfz11_1
    try clear hfz11_2
    try clear hfz11_3
    try clear hfz11_4
    try clear hfz11_5
    try clear hfz14_0
    try clear hfz14_1
    try clear hfz14_2
    try clear hfz14_3
    try clear hfz14_4
    try clear hfz14_5
    try clear hfz9_0
    try clear hfz9_1
    try clear hfz9_2
    try clear hfz9_3
    try clear hfz9_4
    try clear hfz9_5
    try clear hx133_0
    try clear p133
    try clear q133
    obtain ⟨kq, x5_6, rfl, HA, HJ6, BK123, HB⟩ := hcut
    cases kq with
    | zero => exact absurd HA.out (by simp [paybooklaw11_NoticeParties.j0])
    | succ kj6 =>
     have H := HA.out
     clear HA
     simp only [paybooklaw11_NoticeParties.j0] at H
     replace H := Option.bind_eq_some_iff.mp H
     obtain ⟨⟨t134, t135, t136, t137, t138, t139⟩, A170, H⟩ := H
     replace H : ((notice_Asked.f t134 t135 t136 t137 t138 t139).bind fun bt141 => ((paybooklaw11_awake.f kj6).bind fun t149 => (if t149 = true then ((notice_Asked.f t124 t125 t126 t127 t128 0).bind fun bt150 => ((notice_Party.f kj6 bt150.1 bt150.2.1 bt150.2.2.1 bt150.2.2.2.1 bt150.2.2.2.2.1 bt150.2.2.2.2.2).bind fun t156 => ((some (([0, 0, 1, 1, 2] : List Int) : List Int)).bind fun y157 => (if 0 ≤ ((t124 - 1) % 256) then (if ((t124 - 1) % 256) < (y157.length : Int) then (if t156 = (rd y157 ((t124 - 1) % 256)) then (if (t134 == t124 && (t135 == t125 && (t136 == t126 && (t137 == t127 && (t138 == t128 && (t139 == a1)))))) = true then (if (bt141.1 == t124 && (bt141.2.1 == t125 && (bt141.2.2.1 == t126 && (bt141.2.2.2.1 == t127 && (bt141.2.2.2.2.1 == t128 && (bt141.2.2.2.2.2 == 0)))))) = true then (if x5_6 < 3 then (some true) else (some (x5_6 == 3))) else (some false)) else (some false)) else (some false)) else (none)) else (none))))) else (some false)))) = some true := H
     have A17 := Aside0.mk A170
     clear A170
     replace H := Option.bind_eq_some_iff.mp H
     obtain ⟨⟨t141, t142, t143, t144, t145, t146⟩, A180, H⟩ := H
     replace H : ((paybooklaw11_awake.f kj6).bind fun t149 => (if t149 = true then ((notice_Asked.f t124 t125 t126 t127 t128 0).bind fun bt150 => ((notice_Party.f kj6 bt150.1 bt150.2.1 bt150.2.2.1 bt150.2.2.2.1 bt150.2.2.2.2.1 bt150.2.2.2.2.2).bind fun t156 => ((some (([0, 0, 1, 1, 2] : List Int) : List Int)).bind fun y157 => (if 0 ≤ ((t124 - 1) % 256) then (if ((t124 - 1) % 256) < (y157.length : Int) then (if t156 = (rd y157 ((t124 - 1) % 256)) then (if (t134 == t124 && (t135 == t125 && (t136 == t126 && (t137 == t127 && (t138 == t128 && (t139 == a1)))))) = true then (if (t141 == t124 && (t142 == t125 && (t143 == t126 && (t144 == t127 && (t145 == t128 && (t146 == 0)))))) = true then (if x5_6 < 3 then (some true) else (some (x5_6 == 3))) else (some false)) else (some false)) else (some false)) else (none)) else (none))))) else (some false))) = some true := H
     have A18 := Aside0.mk A180
     clear A180
     replace H := Option.bind_eq_some_iff.mp H
     obtain ⟨t149, A190, H⟩ := H
     replace H : (if t149 = true then ((notice_Asked.f t124 t125 t126 t127 t128 0).bind fun bt150 => ((notice_Party.f kj6 bt150.1 bt150.2.1 bt150.2.2.1 bt150.2.2.2.1 bt150.2.2.2.2.1 bt150.2.2.2.2.2).bind fun t156 => ((some (([0, 0, 1, 1, 2] : List Int) : List Int)).bind fun y157 => (if 0 ≤ ((t124 - 1) % 256) then (if ((t124 - 1) % 256) < (y157.length : Int) then (if t156 = (rd y157 ((t124 - 1) % 256)) then (if (t134 == t124 && (t135 == t125 && (t136 == t126 && (t137 == t127 && (t138 == t128 && (t139 == a1)))))) = true then (if (t141 == t124 && (t142 == t125 && (t143 == t126 && (t144 == t127 && (t145 == t128 && (t146 == 0)))))) = true then (if x5_6 < 3 then (some true) else (some (x5_6 == 3))) else (some false)) else (some false)) else (some false)) else (none)) else (none))))) else (some false)) = some true := H
     have A19 := Aside0.mk A190
     clear A190
     by_cases c20 : t149 = true
     ·subst c20
      have H1 : ((notice_Asked.f t124 t125 t126 t127 t128 0).bind fun bt150 => ((notice_Party.f kj6 bt150.1 bt150.2.1 bt150.2.2.1 bt150.2.2.2.1 bt150.2.2.2.2.1 bt150.2.2.2.2.2).bind fun t156 => ((some (([0, 0, 1, 1, 2] : List Int) : List Int)).bind fun y157 => (if 0 ≤ ((t124 - 1) % 256) then (if ((t124 - 1) % 256) < (y157.length : Int) then (if t156 = (rd y157 ((t124 - 1) % 256)) then (if (t134 == t124 && (t135 == t125 && (t136 == t126 && (t137 == t127 && (t138 == t128 && (t139 == a1)))))) = true then (if (t141 == t124 && (t142 == t125 && (t143 == t126 && (t144 == t127 && (t145 == t128 && (t146 == 0)))))) = true then (if x5_6 < 3 then (some true) else (some (x5_6 == 3))) else (some false)) else (some false)) else (some false)) else (none)) else (none))))) = some true := by rw [if_pos rfl] at H; try exact H
      clear H
      have H := H1
      clear H1
      replace H := Option.bind_eq_some_iff.mp H
      obtain ⟨⟨t150, t151, t152, t153, t154, t155⟩, A210, H⟩ := H
      replace H : ((notice_Party.f kj6 t150 t151 t152 t153 t154 t155).bind fun t156 => ((some (([0, 0, 1, 1, 2] : List Int) : List Int)).bind fun y157 => (if 0 ≤ ((t124 - 1) % 256) then (if ((t124 - 1) % 256) < (y157.length : Int) then (if t156 = (rd y157 ((t124 - 1) % 256)) then (if (t134 == t124 && (t135 == t125 && (t136 == t126 && (t137 == t127 && (t138 == t128 && (t139 == a1)))))) = true then (if (t141 == t124 && (t142 == t125 && (t143 == t126 && (t144 == t127 && (t145 == t128 && (t146 == 0)))))) = true then (if x5_6 < 3 then (some true) else (some (x5_6 == 3))) else (some false)) else (some false)) else (some false)) else (none)) else (none)))) = some true := H
      have A21 := Aside0.mk A210
      clear A210
      replace H := Option.bind_eq_some_iff.mp H
      obtain ⟨t156, A220, H⟩ := H
      replace H : ((some (([0, 0, 1, 1, 2] : List Int) : List Int)).bind fun y157 => (if 0 ≤ ((t124 - 1) % 256) then (if ((t124 - 1) % 256) < (y157.length : Int) then (if t156 = (rd y157 ((t124 - 1) % 256)) then (if (t134 == t124 && (t135 == t125 && (t136 == t126 && (t137 == t127 && (t138 == t128 && (t139 == a1)))))) = true then (if (t141 == t124 && (t142 == t125 && (t143 == t126 && (t144 == t127 && (t145 == t128 && (t146 == 0)))))) = true then (if x5_6 < 3 then (some true) else (some (x5_6 == 3))) else (some false)) else (some false)) else (some false)) else (none)) else (none))) = some true := H
      have A22 := Aside0.mk A220
      clear A220
      obtain ⟨y157, hy157⟩ : ∃ y_ : List Int, y_ = (([0, 0, 1, 1, 2] : List Int)) := ⟨_, rfl⟩
      replace H : (if 0 ≤ ((t124 - 1) % 256) then (if ((t124 - 1) % 256) < (y157.length : Int) then (if t156 = (rd y157 ((t124 - 1) % 256)) then (if (t134 == t124 && (t135 == t125 && (t136 == t126 && (t137 == t127 && (t138 == t128 && (t139 == a1)))))) = true then (if (t141 == t124 && (t142 == t125 && (t143 == t126 && (t144 == t127 && (t145 == t128 && (t146 == 0)))))) = true then (if x5_6 < 3 then (some true) else (some (x5_6 == 3))) else (some false)) else (some false)) else (some false)) else (none)) else (none)) = some true := by first | (rw [hy157]; with_reducible exact H) | (have H2_ := (Option.bind_some _ _).symm.trans H; rw [hy157]; with_reducible exact H2_) | (have H2_ := (Option.bind_some _ _).symm.trans H; with_reducible exact H2_) | with_reducible exact H | (rw [hy157]; exact H) | exact H
      have Ny157 := Aside0.mk hy157
      clear hy157
      replace H : (if 0 ≤ (ji4) then (if (ji4) < (y157.length : Int) then (if t156 = (rd y157 (ji4)) then (if (t134 == t124 && (t135 == t125 && (t136 == t126 && (t137 == t127 && (t138 == t128 && (t139 == a1)))))) = true then (if (t141 == t124 && (t142 == t125 && (t143 == t126 && (t144 == t127 && (t145 == t128 && (t146 == 0)))))) = true then (if x5_6 < 3 then (some true) else (some (x5_6 == 3))) else (some false)) else (some false)) else (some false)) else (none)) else (none)) = some true := by first | (rw [hji4] at H; try exact H) | (simp only [hji4] at H ⊢; exact H)
      (try rw [hji4] at A17)
      (try rw [hji4] at A18)
      (try rw [hji4] at A19)
      (try rw [hji4] at A21)
      (try rw [hji4] at A22)
      by_cases c23 : 0 ≤ (ji4)
      ·rw [if_pos c23] at H
       have c23b0 : decide (0 ≤ (ji4)) = true := decide_eq_true c23
       clear c23
       by_cases c24 : (ji4) < (y157.length : Int)
       ·rw [if_pos c24] at H
        have c24b0 : decide ((ji4) < (y157.length : Int)) = true := decide_eq_true c24
        clear c24
        by_cases c25 : t156 = (rd y157 (ji4))
        ·rw [if_pos c25] at H
         have c25b0 : (t156 == (rd y157 (ji4))) = true := beq_iff_eq.mpr c25
         have c25b1 : (t156 != (rd y157 (ji4))) = false := bne_eq_false_iff_eq.mpr c25
         clear c25
         by_cases c26 : (t134 == t124 && (t135 == t125 && (t136 == t126 && (t137 == t127 && (t138 == t128 && (t139 == a1)))))) = true
         ·rw [if_pos c26] at H
          have c26b0 : (t134 == t124 && (t135 == t125 && (t136 == t126 && (t137 == t127 && (t138 == t128 && (t139 == a1)))))) = true := c26
          (try (have c26b1 : decide (t134 = t124 && (t135 == t125 && (t136 == t126 && (t137 == t127 && (t138 == t128 && (t139 == a1)))))) = true := by simpa using c26))
          (try (have c26b2 : (t134 == t124 && (t135 == t125 && (t136 == t126 && (t137 == t127 && (t138 == t128 && (t139 == a1)))))) = true := by simpa using c26))
          clear c26
          by_cases c27 : (t141 == t124 && (t142 == t125 && (t143 == t126 && (t144 == t127 && (t145 == t128 && (t146 == 0)))))) = true
          ·rw [if_pos c27] at H
           have c27b0 : (t141 == t124 && (t142 == t125 && (t143 == t126 && (t144 == t127 && (t145 == t128 && (t146 == 0)))))) = true := c27
           (try (have c27b1 : decide (t141 = t124 && (t142 == t125 && (t143 == t126 && (t144 == t127 && (t145 == t128 && (t146 == 0)))))) = true := by simpa using c27))
           (try (have c27b2 : (t141 == t124 && (t142 == t125 && (t143 == t126 && (t144 == t127 && (t145 == t128 && (t146 == 0)))))) = true := by simpa using c27))
           clear c27
           by_cases c28 : x5_6 < 3
           ·rw [if_pos c28] at H
            have c28b0 : decide (x5_6 < 3) = true := decide_eq_true c28
            clear c28
            clear H
            have hcz29_0 : wc.cell? ⟨gb123, 0, none⟩ = some (.int .u8 t124) := (kC BK123.out 0).trans rfl
            have hcz29_1 : wc.cell? ⟨gb123, 1, none⟩ = some (.int .i64 t125) := (kC BK123.out 1).trans rfl
            have hcz29_2 : wc.cell? ⟨gb123, 2, none⟩ = some (.int .i64 t126) := (kC BK123.out 2).trans rfl
            have hcz29_3 : wc.cell? ⟨gb123, 3, none⟩ = some (.int .i64 t127) := (kC BK123.out 3).trans rfl
            have hcz29_4 : wc.cell? ⟨gb123, 4, none⟩ = some (.int .i64 t128) := (kC BK123.out 4).trans rfl
            have hcz29_5 : wc.cell? ⟨gb123, 5, none⟩ = some (.int .u8 t129) := (kC BK123.out 5).trans rfl
            have hfz29_0 := kF BK123.out 0
            have hfz29_1 := kF BK123.out 1
            have hfz29_2 := kF BK123.out 2
            have hfz29_3 := kF BK123.out 3
            have hfz29_4 := kF BK123.out 4
            have hfz29_5 := kF BK123.out 5
            try go_wp2_with (first | ((with_reducible refine gate_callee (f := 6) rfl ?_); refine goesL_ (some 22) rfl rfl Try.func6 (by kernel_rfl) rfl #[.agg #[.int .u8 t124, .int .i64 t125, .int .i64 t126, .int .i64 t127, .int .i64 t128, .int .u8 t129], .int .u8 a1] rfl (by (try simp only [List.map_toArray, List.map_cons, List.map_nil]); first | done | rfl | (simp only [List.length_drop, List.length_take]; rfl)) ?_; (with_reducible refine (notice_Answer.calls t124 t125 t126 t127 t128 t129 a1 t134 t135 t136 t137 t138 t139 _ A17.out).mono ?_); rintro e w30 ⟨rfl, hb⟩; refine ⟨_, rfl, ?_⟩; have n0_ := Aside0.mk (blk_below (g := gb123) (o := .cells #[.int .u8 t124, .int .i64 t125, .int .i64 t126, .int .i64 t127, .int .i64 t128, .int .u8 t129] 23 (0, 0)) (by (with_reducible repeat (first | refine kN ?_ _ | refine kD ?_ | refine kA ?_ _)); exact BK123.out) hb); have n1_ := Aside0.mk (below_step (by repeat (first | (with_reducible first | exact HB.out | apply kL | apply kM | apply kE | refine kS ?_ GE123.out) | exact HB.out)) hb); clear BK123; clear HB; have BK123 := n0_; have HB := n1_; clear n0_ n1_; (try clear hb); (try clear hb2); (try clear hk); (try clear hi)) | ((with_reducible refine gate_dst (N := 6) rfl ?_); (try (refine gate_guard (by rfl) ?_; dsimp only)); refine box_event ?hg (N := 6) ?hd (cs := #[.int .u8 0, .int .i64 0, .int .i64 0, .int .i64 0, .int .i64 0, .int .u8 0]) (t := 23) ?hr ?_; (case hd => rfl); (case hg => rfl); (case hr => first | (go_simp; done) | (go_simp; rfl)); intro gb140 hg w31 hbox hb; have n0_ := Aside0.mk (blk_below (g := gb123) (o := .cells #[.int .u8 t124, .int .i64 t125, .int .i64 t126, .int .i64 t127, .int .i64 t128, .int .u8 t129] 23 (0, 0)) (by (with_reducible repeat (first | refine kN ?_ _ | refine kD ?_ | refine kA ?_ _)); exact BK123.out) hb); have n1_ := Aside0.mk (below_step (by repeat (first | (with_reducible first | exact HB.out | apply kL | apply kM | apply kE | refine kS ?_ GE123.out) | exact HB.out)) hb); have n2_ := Aside0.mk (hbox); have n3_ := Aside0.mk ((by rw [hg]; exact (below_size (by repeat (first | (with_reducible first | exact HB.out | apply kL | apply kM | apply kE | refine kS ?_ GE123.out) | exact HB.out))) : w.heap.size ≤ gb140)); have n4_ := Aside0.mk ((by rw [hg]; exact (below_size (by repeat (first | (with_reducible first | exact HB.out | apply kL | apply kM | apply kE | refine kS ?_ GE123.out) | exact HB.out))) : w.heap.size ≤ gb140)); have n5_ := Aside0.mk ((by rw [hg]; exact Nat.ne_of_lt (blk_lt (g := gb123) (o := .cells #[.int .u8 t124, .int .i64 t125, .int .i64 t126, .int .i64 t127, .int .i64 t128, .int .u8 t129] 23 (0, 0)) (by (with_reducible repeat (first | refine kN ?_ _ | refine kD ?_ | refine kA ?_ _)); exact BK123.out)) : gb123 ≠ gb140)); have n6_ := Aside0.mk ((by rw [hg]; exact Nat.ne_of_gt (blk_lt (g := gb123) (o := .cells #[.int .u8 t124, .int .i64 t125, .int .i64 t126, .int .i64 t127, .int .i64 t128, .int .u8 t129] 23 (0, 0)) (by (with_reducible repeat (first | refine kN ?_ _ | refine kD ?_ | refine kA ?_ _)); exact BK123.out)) : gb140 ≠ gb123)); clear BK123; clear HB; have BK123 := n0_; have HB := n1_; have BK140 := n2_; have GW140 := n3_; have GE140 := n4_; have NB123_140 := n5_; have NB140_123 := n6_; clear n0_ n1_ n2_ n3_ n4_ n5_ n6_; clear hb hbox hg; have hnb32 := NB140_123.out; have hnc32 := NB123_140.out; have hcz33_0 : w31.cell? ⟨gb140, 0, none⟩ = some (.int .u8 0) := (kC BK140.out 0).trans rfl; have hcz33_1 : w31.cell? ⟨gb140, 1, none⟩ = some (.int .i64 0) := (kC BK140.out 1).trans rfl; have hcz33_2 : w31.cell? ⟨gb140, 2, none⟩ = some (.int .i64 0) := (kC BK140.out 2).trans rfl; have hcz33_3 : w31.cell? ⟨gb140, 3, none⟩ = some (.int .i64 0) := (kC BK140.out 3).trans rfl; have hcz33_4 : w31.cell? ⟨gb140, 4, none⟩ = some (.int .i64 0) := (kC BK140.out 4).trans rfl; have hcz33_5 : w31.cell? ⟨gb140, 5, none⟩ = some (.int .u8 0) := (kC BK140.out 5).trans rfl; have hfz33_0 := kF BK140.out 0; have hfz33_1 := kF BK140.out 1; have hfz33_2 := kF BK140.out 2; have hfz33_3 := kF BK140.out 3; have hfz33_4 := kF BK140.out 4; have hfz33_5 := kF BK140.out 5) | ((with_reducible refine gate_callee (f := 7) rfl ?_); refine goesL_ (some 24) rfl rfl Try.func7 (by kernel_rfl) rfl #[.agg #[.int .u8 t134, .int .i64 t135, .int .i64 t136, .int .i64 t137, .int .i64 t138, .int .u8 t139]] rfl (by (try simp only [List.map_toArray, List.map_cons, List.map_nil]); first | done | rfl | (simp only [List.length_drop, List.length_take]; rfl)) ?_; (with_reducible refine (notice_Asked.calls t134 t135 t136 t137 t138 t139 t141 t142 t143 t144 t145 t146 _ A18.out).mono ?_); rintro e w34 ⟨rfl, hb⟩; refine ⟨_, rfl, ?_⟩; have n0_ := Aside0.mk (blk_below (g := gb123) (o := .cells #[.int .u8 t124, .int .i64 t125, .int .i64 t126, .int .i64 t127, .int .i64 t128, .int .u8 t129] 23 (0, 0)) (by (with_reducible repeat (first | refine kN ?_ _ | refine kD ?_ | refine kA ?_ _)); refine kR ?_ NB123_140.out _; (with_reducible repeat (first | refine kN ?_ _ | refine kD ?_ | refine kA ?_ _)); refine kR ?_ NB123_140.out _; (with_reducible repeat (first | refine kN ?_ _ | refine kD ?_ | refine kA ?_ _)); refine kR ?_ NB123_140.out _; (with_reducible repeat (first | refine kN ?_ _ | refine kD ?_ | refine kA ?_ _)); refine kR ?_ NB123_140.out _; (with_reducible repeat (first | refine kN ?_ _ | refine kD ?_ | refine kA ?_ _)); refine kR ?_ NB123_140.out _; (with_reducible repeat (first | refine kN ?_ _ | refine kD ?_ | refine kA ?_ _)); refine kR ?_ NB123_140.out _; (with_reducible repeat (first | refine kN ?_ _ | refine kD ?_ | refine kA ?_ _)); exact BK123.out) hb); have n1_ := Aside0.mk (blk_below (g := gb140) (o := .cells #[.int .u8 t134, .int .i64 t135, .int .i64 t136, .int .i64 t137, .int .i64 t138, .int .u8 t139] 23 (0, 0)) (by (with_reducible repeat (first | refine kN ?_ _ | refine kD ?_ | refine kA ?_ _)); refine kP (cs := #[.int .u8 t134, .int .i64 t135, .int .i64 t136, .int .i64 t137, .int .i64 t138, .int .u8 0]) ?_ 5 _ rfl; (with_reducible repeat (first | refine kN ?_ _ | refine kD ?_ | refine kA ?_ _)); refine kP (cs := #[.int .u8 t134, .int .i64 t135, .int .i64 t136, .int .i64 t137, .int .i64 0, .int .u8 0]) ?_ 4 _ rfl; (with_reducible repeat (first | refine kN ?_ _ | refine kD ?_ | refine kA ?_ _)); refine kP (cs := #[.int .u8 t134, .int .i64 t135, .int .i64 t136, .int .i64 0, .int .i64 0, .int .u8 0]) ?_ 3 _ rfl; (with_reducible repeat (first | refine kN ?_ _ | refine kD ?_ | refine kA ?_ _)); refine kP (cs := #[.int .u8 t134, .int .i64 t135, .int .i64 0, .int .i64 0, .int .i64 0, .int .u8 0]) ?_ 2 _ rfl; (with_reducible repeat (first | refine kN ?_ _ | refine kD ?_ | refine kA ?_ _)); refine kP (cs := #[.int .u8 t134, .int .i64 0, .int .i64 0, .int .i64 0, .int .i64 0, .int .u8 0]) ?_ 1 _ rfl; (with_reducible repeat (first | refine kN ?_ _ | refine kD ?_ | refine kA ?_ _)); refine kP (cs := #[.int .u8 0, .int .i64 0, .int .i64 0, .int .i64 0, .int .i64 0, .int .u8 0]) ?_ 0 _ rfl; (with_reducible repeat (first | refine kN ?_ _ | refine kD ?_ | refine kA ?_ _)); exact BK140.out) hb); have n2_ := Aside0.mk (below_step (by repeat (first | (with_reducible first | exact HB.out | apply kL | apply kM | apply kE | refine kS ?_ GE123.out | refine kS ?_ GE140.out) | exact HB.out)) hb); clear BK123; clear BK140; clear HB; have BK123 := n0_; have BK140 := n1_; have HB := n2_; clear n0_ n1_ n2_; (try clear hb); (try clear hb2); (try clear hk); (try clear hi)) | ((with_reducible refine gate_dst (N := 7) rfl ?_); (try (refine gate_guard (by rfl) ?_; dsimp only)); refine box_event ?hg (N := 7) ?hd (cs := #[.int .u8 0, .int .i64 0, .int .i64 0, .int .i64 0, .int .i64 0, .int .u8 0]) (t := 23) ?hr ?_; (case hd => rfl); (case hg => rfl); (case hr => first | (go_simp; done) | (go_simp; rfl)); intro gb147 hg w35 hbox hb; have n0_ := Aside0.mk (blk_below (g := gb123) (o := .cells #[.int .u8 t124, .int .i64 t125, .int .i64 t126, .int .i64 t127, .int .i64 t128, .int .u8 t129] 23 (0, 0)) (by (with_reducible repeat (first | refine kN ?_ _ | refine kD ?_ | refine kA ?_ _)); exact BK123.out) hb); have n1_ := Aside0.mk (blk_below (g := gb140) (o := .cells #[.int .u8 t134, .int .i64 t135, .int .i64 t136, .int .i64 t137, .int .i64 t138, .int .u8 t139] 23 (0, 0)) (by (with_reducible repeat (first | refine kN ?_ _ | refine kD ?_ | refine kA ?_ _)); exact BK140.out) hb); have n2_ := Aside0.mk (below_step (by repeat (first | (with_reducible first | exact HB.out | apply kL | apply kM | apply kE | refine kS ?_ GE123.out | refine kS ?_ GE140.out) | exact HB.out)) hb); have n3_ := Aside0.mk (hbox); have n4_ := Aside0.mk ((by rw [hg]; exact (below_size (by repeat (first | (with_reducible first | exact HB.out | apply kL | apply kM | apply kE | refine kS ?_ GE123.out | refine kS ?_ GE140.out) | exact HB.out))) : w.heap.size ≤ gb147)); have n5_ := Aside0.mk ((by rw [hg]; exact (below_size (by repeat (first | (with_reducible first | exact HB.out | apply kL | apply kM | apply kE | refine kS ?_ GE123.out | refine kS ?_ GE140.out) | exact HB.out))) : w.heap.size ≤ gb147)); have n6_ := Aside0.mk ((by rw [hg]; exact Nat.ne_of_lt (blk_lt (g := gb123) (o := .cells #[.int .u8 t124, .int .i64 t125, .int .i64 t126, .int .i64 t127, .int .i64 t128, .int .u8 t129] 23 (0, 0)) (by (with_reducible repeat (first | refine kN ?_ _ | refine kD ?_ | refine kA ?_ _)); exact BK123.out)) : gb123 ≠ gb147)); have n7_ := Aside0.mk ((by rw [hg]; exact Nat.ne_of_gt (blk_lt (g := gb123) (o := .cells #[.int .u8 t124, .int .i64 t125, .int .i64 t126, .int .i64 t127, .int .i64 t128, .int .u8 t129] 23 (0, 0)) (by (with_reducible repeat (first | refine kN ?_ _ | refine kD ?_ | refine kA ?_ _)); exact BK123.out)) : gb147 ≠ gb123)); have n8_ := Aside0.mk ((by rw [hg]; exact Nat.ne_of_lt (blk_lt (g := gb140) (o := .cells #[.int .u8 t134, .int .i64 t135, .int .i64 t136, .int .i64 t137, .int .i64 t138, .int .u8 t139] 23 (0, 0)) (by (with_reducible repeat (first | refine kN ?_ _ | refine kD ?_ | refine kA ?_ _)); exact BK140.out)) : gb140 ≠ gb147)); have n9_ := Aside0.mk ((by rw [hg]; exact Nat.ne_of_gt (blk_lt (g := gb140) (o := .cells #[.int .u8 t134, .int .i64 t135, .int .i64 t136, .int .i64 t137, .int .i64 t138, .int .u8 t139] 23 (0, 0)) (by (with_reducible repeat (first | refine kN ?_ _ | refine kD ?_ | refine kA ?_ _)); exact BK140.out)) : gb147 ≠ gb140)); clear BK123; clear BK140; clear HB; have BK123 := n0_; have BK140 := n1_; have HB := n2_; have BK147 := n3_; have GW147 := n4_; have GE147 := n5_; have NB123_147 := n6_; have NB147_123 := n7_; have NB140_147 := n8_; have NB147_140 := n9_; clear n0_ n1_ n2_ n3_ n4_ n5_ n6_ n7_ n8_ n9_; clear hb hbox hg; have hnb36 := NB147_123.out; have hnc36 := NB123_147.out; have hnb37 := NB147_140.out; have hnc37 := NB140_147.out; have hcz38_0 : w35.cell? ⟨gb147, 0, none⟩ = some (.int .u8 0) := (kC BK147.out 0).trans rfl; have hcz38_1 : w35.cell? ⟨gb147, 1, none⟩ = some (.int .i64 0) := (kC BK147.out 1).trans rfl; have hcz38_2 : w35.cell? ⟨gb147, 2, none⟩ = some (.int .i64 0) := (kC BK147.out 2).trans rfl; have hcz38_3 : w35.cell? ⟨gb147, 3, none⟩ = some (.int .i64 0) := (kC BK147.out 3).trans rfl; have hcz38_4 : w35.cell? ⟨gb147, 4, none⟩ = some (.int .i64 0) := (kC BK147.out 4).trans rfl; have hcz38_5 : w35.cell? ⟨gb147, 5, none⟩ = some (.int .u8 0) := (kC BK147.out 5).trans rfl; have hfz38_0 := kF BK147.out 0; have hfz38_1 := kF BK147.out 1; have hfz38_2 := kF BK147.out 2; have hfz38_3 := kF BK147.out 3; have hfz38_4 := kF BK147.out 4; have hfz38_5 := kF BK147.out 5; have hcz39_0 : w35.cell? ⟨gb123, 0, none⟩ = some (.int .u8 t124) := (kC BK123.out 0).trans rfl; have hcz39_1 : w35.cell? ⟨gb123, 1, none⟩ = some (.int .i64 t125) := (kC BK123.out 1).trans rfl; have hcz39_2 : w35.cell? ⟨gb123, 2, none⟩ = some (.int .i64 t126) := (kC BK123.out 2).trans rfl; have hcz39_3 : w35.cell? ⟨gb123, 3, none⟩ = some (.int .i64 t127) := (kC BK123.out 3).trans rfl; have hcz39_4 : w35.cell? ⟨gb123, 4, none⟩ = some (.int .i64 t128) := (kC BK123.out 4).trans rfl; have hcz39_5 : w35.cell? ⟨gb123, 5, none⟩ = some (.int .u8 t129) := (kC BK123.out 5).trans rfl; have hfz39_0 := kF BK123.out 0; have hfz39_1 := kF BK123.out 1; have hfz39_2 := kF BK123.out 2; have hfz39_3 := kF BK123.out 3; have hfz39_4 := kF BK123.out 4; have hfz39_5 := kF BK123.out 5) | ((with_reducible refine gate_dst (N := 26) rfl ?_); (try (refine gate_guard (by rfl) ?_; dsimp only)); refine wpList_load_row rfl 23 (.tmp 2) rfl gb123 rfl 23 #[.int .u8 t124, .int .i64 t125, .int .i64 t126, .int .i64 t127, .int .i64 t128, .int .u8 0] (0, 0) _ (by (with_reducible repeat (first | refine kN ?_ _ | refine kD ?_ | refine kA ?_ _)); refine kP (cs := #[.int .u8 t124, .int .i64 t125, .int .i64 t126, .int .i64 t127, .int .i64 t128, .int .u8 t129]) ?_ 5 _ rfl; (with_reducible repeat (first | refine kN ?_ _ | refine kD ?_ | refine kA ?_ _)); refine kR ?_ NB123_147.out _; (with_reducible repeat (first | refine kN ?_ _ | refine kD ?_ | refine kA ?_ _)); refine kR ?_ NB123_147.out _; (with_reducible repeat (first | refine kN ?_ _ | refine kD ?_ | refine kA ?_ _)); refine kR ?_ NB123_147.out _; (with_reducible repeat (first | refine kN ?_ _ | refine kD ?_ | refine kA ?_ _)); refine kR ?_ NB123_147.out _; (with_reducible repeat (first | refine kN ?_ _ | refine kD ?_ | refine kA ?_ _)); refine kR ?_ NB123_147.out _; (with_reducible repeat (first | refine kN ?_ _ | refine kD ?_ | refine kA ?_ _)); refine kR ?_ NB123_147.out _; (with_reducible repeat (first | refine kN ?_ _ | refine kD ?_ | refine kA ?_ _)); exact BK123.out) Try.underlying23 rfl (by kernel_rfl) ?_) | ((with_reducible refine gate_dst (N := 8) rfl ?_); (try (refine gate_guard (by rfl) ?_; dsimp only)); refine box_event ?hg (N := 8) ?hd (cs := #[.int .u8 0, .int .i64 0, .int .i64 0, .int .i64 0, .int .i64 0, .int .u8 0]) (t := 23) ?hr ?_; (case hd => rfl); (case hg => rfl); (case hr => first | (go_simp; done) | (go_simp; rfl)); intro gb148 hg w40 hbox hb; have n0_ := Aside0.mk (blk_below (g := gb123) (o := .cells #[.int .u8 t124, .int .i64 t125, .int .i64 t126, .int .i64 t127, .int .i64 t128, .int .u8 0] 23 (0, 0)) (by (with_reducible repeat (first | refine kN ?_ _ | refine kD ?_ | refine kA ?_ _)); refine kP (cs := #[.int .u8 t124, .int .i64 t125, .int .i64 t126, .int .i64 t127, .int .i64 t128, .int .u8 t129]) ?_ 5 _ rfl; (with_reducible repeat (first | refine kN ?_ _ | refine kD ?_ | refine kA ?_ _)); refine kR ?_ NB123_147.out _; (with_reducible repeat (first | refine kN ?_ _ | refine kD ?_ | refine kA ?_ _)); refine kR ?_ NB123_147.out _; (with_reducible repeat (first | refine kN ?_ _ | refine kD ?_ | refine kA ?_ _)); refine kR ?_ NB123_147.out _; (with_reducible repeat (first | refine kN ?_ _ | refine kD ?_ | refine kA ?_ _)); refine kR ?_ NB123_147.out _; (with_reducible repeat (first | refine kN ?_ _ | refine kD ?_ | refine kA ?_ _)); refine kR ?_ NB123_147.out _; (with_reducible repeat (first | refine kN ?_ _ | refine kD ?_ | refine kA ?_ _)); refine kR ?_ NB123_147.out _; (with_reducible repeat (first | refine kN ?_ _ | refine kD ?_ | refine kA ?_ _)); exact BK123.out) hb); have n1_ := Aside0.mk (blk_below (g := gb140) (o := .cells #[.int .u8 t134, .int .i64 t135, .int .i64 t136, .int .i64 t137, .int .i64 t138, .int .u8 t139] 23 (0, 0)) (by (with_reducible repeat (first | refine kN ?_ _ | refine kD ?_ | refine kA ?_ _)); refine kR ?_ NB140_123.out _; (with_reducible repeat (first | refine kN ?_ _ | refine kD ?_ | refine kA ?_ _)); refine kR ?_ NB140_147.out _; (with_reducible repeat (first | refine kN ?_ _ | refine kD ?_ | refine kA ?_ _)); refine kR ?_ NB140_147.out _; (with_reducible repeat (first | refine kN ?_ _ | refine kD ?_ | refine kA ?_ _)); refine kR ?_ NB140_147.out _; (with_reducible repeat (first | refine kN ?_ _ | refine kD ?_ | refine kA ?_ _)); refine kR ?_ NB140_147.out _; (with_reducible repeat (first | refine kN ?_ _ | refine kD ?_ | refine kA ?_ _)); refine kR ?_ NB140_147.out _; (with_reducible repeat (first | refine kN ?_ _ | refine kD ?_ | refine kA ?_ _)); refine kR ?_ NB140_147.out _; (with_reducible repeat (first | refine kN ?_ _ | refine kD ?_ | refine kA ?_ _)); exact BK140.out) hb); have n2_ := Aside0.mk (blk_below (g := gb147) (o := .cells #[.int .u8 t141, .int .i64 t142, .int .i64 t143, .int .i64 t144, .int .i64 t145, .int .u8 t146] 23 (0, 0)) (by (with_reducible repeat (first | refine kN ?_ _ | refine kD ?_ | refine kA ?_ _)); refine kR ?_ NB147_123.out _; (with_reducible repeat (first | refine kN ?_ _ | refine kD ?_ | refine kA ?_ _)); refine kP (cs := #[.int .u8 t141, .int .i64 t142, .int .i64 t143, .int .i64 t144, .int .i64 t145, .int .u8 0]) ?_ 5 _ rfl; (with_reducible repeat (first | refine kN ?_ _ | refine kD ?_ | refine kA ?_ _)); refine kP (cs := #[.int .u8 t141, .int .i64 t142, .int .i64 t143, .int .i64 t144, .int .i64 0, .int .u8 0]) ?_ 4 _ rfl; (with_reducible repeat (first | refine kN ?_ _ | refine kD ?_ | refine kA ?_ _)); refine kP (cs := #[.int .u8 t141, .int .i64 t142, .int .i64 t143, .int .i64 0, .int .i64 0, .int .u8 0]) ?_ 3 _ rfl; (with_reducible repeat (first | refine kN ?_ _ | refine kD ?_ | refine kA ?_ _)); refine kP (cs := #[.int .u8 t141, .int .i64 t142, .int .i64 0, .int .i64 0, .int .i64 0, .int .u8 0]) ?_ 2 _ rfl; (with_reducible repeat (first | refine kN ?_ _ | refine kD ?_ | refine kA ?_ _)); refine kP (cs := #[.int .u8 t141, .int .i64 0, .int .i64 0, .int .i64 0, .int .i64 0, .int .u8 0]) ?_ 1 _ rfl; (with_reducible repeat (first | refine kN ?_ _ | refine kD ?_ | refine kA ?_ _)); refine kP (cs := #[.int .u8 0, .int .i64 0, .int .i64 0, .int .i64 0, .int .i64 0, .int .u8 0]) ?_ 0 _ rfl; (with_reducible repeat (first | refine kN ?_ _ | refine kD ?_ | refine kA ?_ _)); exact BK147.out) hb); have n3_ := Aside0.mk (below_step (by repeat (first | (with_reducible first | exact HB.out | apply kL | apply kM | apply kE | refine kS ?_ GE123.out | refine kS ?_ GE140.out | refine kS ?_ GE147.out) | exact HB.out)) hb); have n4_ := Aside0.mk (hbox); have n5_ := Aside0.mk ((by rw [hg]; exact (below_size (by repeat (first | (with_reducible first | exact HB.out | apply kL | apply kM | apply kE | refine kS ?_ GE123.out | refine kS ?_ GE140.out | refine kS ?_ GE147.out) | exact HB.out))) : w.heap.size ≤ gb148)); have n6_ := Aside0.mk ((by rw [hg]; exact (below_size (by repeat (first | (with_reducible first | exact HB.out | apply kL | apply kM | apply kE | refine kS ?_ GE123.out | refine kS ?_ GE140.out | refine kS ?_ GE147.out) | exact HB.out))) : w.heap.size ≤ gb148)); have n7_ := Aside0.mk ((by rw [hg]; exact Nat.ne_of_lt (blk_lt (g := gb123) (o := .cells #[.int .u8 t124, .int .i64 t125, .int .i64 t126, .int .i64 t127, .int .i64 t128, .int .u8 0] 23 (0, 0)) (by (with_reducible repeat (first | refine kN ?_ _ | refine kD ?_ | refine kA ?_ _)); refine kP (cs := #[.int .u8 t124, .int .i64 t125, .int .i64 t126, .int .i64 t127, .int .i64 t128, .int .u8 t129]) ?_ 5 _ rfl; (with_reducible repeat (first | refine kN ?_ _ | refine kD ?_ | refine kA ?_ _)); refine kR ?_ NB123_147.out _; (with_reducible repeat (first | refine kN ?_ _ | refine kD ?_ | refine kA ?_ _)); refine kR ?_ NB123_147.out _; (with_reducible repeat (first | refine kN ?_ _ | refine kD ?_ | refine kA ?_ _)); refine kR ?_ NB123_147.out _; (with_reducible repeat (first | refine kN ?_ _ | refine kD ?_ | refine kA ?_ _)); refine kR ?_ NB123_147.out _; (with_reducible repeat (first | refine kN ?_ _ | refine kD ?_ | refine kA ?_ _)); refine kR ?_ NB123_147.out _; (with_reducible repeat (first | refine kN ?_ _ | refine kD ?_ | refine kA ?_ _)); refine kR ?_ NB123_147.out _; (with_reducible repeat (first | refine kN ?_ _ | refine kD ?_ | refine kA ?_ _)); exact BK123.out)) : gb123 ≠ gb148)); have n8_ := Aside0.mk ((by rw [hg]; exact Nat.ne_of_gt (blk_lt (g := gb123) (o := .cells #[.int .u8 t124, .int .i64 t125, .int .i64 t126, .int .i64 t127, .int .i64 t128, .int .u8 0] 23 (0, 0)) (by (with_reducible repeat (first | refine kN ?_ _ | refine kD ?_ | refine kA ?_ _)); refine kP (cs := #[.int .u8 t124, .int .i64 t125, .int .i64 t126, .int .i64 t127, .int .i64 t128, .int .u8 t129]) ?_ 5 _ rfl; (with_reducible repeat (first | refine kN ?_ _ | refine kD ?_ | refine kA ?_ _)); refine kR ?_ NB123_147.out _; (with_reducible repeat (first | refine kN ?_ _ | refine kD ?_ | refine kA ?_ _)); refine kR ?_ NB123_147.out _; (with_reducible repeat (first | refine kN ?_ _ | refine kD ?_ | refine kA ?_ _)); refine kR ?_ NB123_147.out _; (with_reducible repeat (first | refine kN ?_ _ | refine kD ?_ | refine kA ?_ _)); refine kR ?_ NB123_147.out _; (with_reducible repeat (first | refine kN ?_ _ | refine kD ?_ | refine kA ?_ _)); refine kR ?_ NB123_147.out _; (with_reducible repeat (first | refine kN ?_ _ | refine kD ?_ | refine kA ?_ _)); refine kR ?_ NB123_147.out _; (with_reducible repeat (first | refine kN ?_ _ | refine kD ?_ | refine kA ?_ _)); exact BK123.out)) : gb148 ≠ gb123)); have n9_ := Aside0.mk ((by rw [hg]; exact Nat.ne_of_lt (blk_lt (g := gb140) (o := .cells #[.int .u8 t134, .int .i64 t135, .int .i64 t136, .int .i64 t137, .int .i64 t138, .int .u8 t139] 23 (0, 0)) (by (with_reducible repeat (first | refine kN ?_ _ | refine kD ?_ | refine kA ?_ _)); refine kR ?_ NB140_123.out _; (with_reducible repeat (first | refine kN ?_ _ | refine kD ?_ | refine kA ?_ _)); refine kR ?_ NB140_147.out _; (with_reducible repeat (first | refine kN ?_ _ | refine kD ?_ | refine kA ?_ _)); refine kR ?_ NB140_147.out _; (with_reducible repeat (first | refine kN ?_ _ | refine kD ?_ | refine kA ?_ _)); refine kR ?_ NB140_147.out _; (with_reducible repeat (first | refine kN ?_ _ | refine kD ?_ | refine kA ?_ _)); refine kR ?_ NB140_147.out _; (with_reducible repeat (first | refine kN ?_ _ | refine kD ?_ | refine kA ?_ _)); refine kR ?_ NB140_147.out _; (with_reducible repeat (first | refine kN ?_ _ | refine kD ?_ | refine kA ?_ _)); refine kR ?_ NB140_147.out _; (with_reducible repeat (first | refine kN ?_ _ | refine kD ?_ | refine kA ?_ _)); exact BK140.out)) : gb140 ≠ gb148)); have n10_ := Aside0.mk ((by rw [hg]; exact Nat.ne_of_gt (blk_lt (g := gb140) (o := .cells #[.int .u8 t134, .int .i64 t135, .int .i64 t136, .int .i64 t137, .int .i64 t138, .int .u8 t139] 23 (0, 0)) (by (with_reducible repeat (first | refine kN ?_ _ | refine kD ?_ | refine kA ?_ _)); refine kR ?_ NB140_123.out _; (with_reducible repeat (first | refine kN ?_ _ | refine kD ?_ | refine kA ?_ _)); refine kR ?_ NB140_147.out _; (with_reducible repeat (first | refine kN ?_ _ | refine kD ?_ | refine kA ?_ _)); refine kR ?_ NB140_147.out _; (with_reducible repeat (first | refine kN ?_ _ | refine kD ?_ | refine kA ?_ _)); refine kR ?_ NB140_147.out _; (with_reducible repeat (first | refine kN ?_ _ | refine kD ?_ | refine kA ?_ _)); refine kR ?_ NB140_147.out _; (with_reducible repeat (first | refine kN ?_ _ | refine kD ?_ | refine kA ?_ _)); refine kR ?_ NB140_147.out _; (with_reducible repeat (first | refine kN ?_ _ | refine kD ?_ | refine kA ?_ _)); refine kR ?_ NB140_147.out _; (with_reducible repeat (first | refine kN ?_ _ | refine kD ?_ | refine kA ?_ _)); exact BK140.out)) : gb148 ≠ gb140)); have n11_ := Aside0.mk ((by rw [hg]; exact Nat.ne_of_lt (blk_lt (g := gb147) (o := .cells #[.int .u8 t141, .int .i64 t142, .int .i64 t143, .int .i64 t144, .int .i64 t145, .int .u8 t146] 23 (0, 0)) (by (with_reducible repeat (first | refine kN ?_ _ | refine kD ?_ | refine kA ?_ _)); refine kR ?_ NB147_123.out _; (with_reducible repeat (first | refine kN ?_ _ | refine kD ?_ | refine kA ?_ _)); refine kP (cs := #[.int .u8 t141, .int .i64 t142, .int .i64 t143, .int .i64 t144, .int .i64 t145, .int .u8 0]) ?_ 5 _ rfl; (with_reducible repeat (first | refine kN ?_ _ | refine kD ?_ | refine kA ?_ _)); refine kP (cs := #[.int .u8 t141, .int .i64 t142, .int .i64 t143, .int .i64 t144, .int .i64 0, .int .u8 0]) ?_ 4 _ rfl; (with_reducible repeat (first | refine kN ?_ _ | refine kD ?_ | refine kA ?_ _)); refine kP (cs := #[.int .u8 t141, .int .i64 t142, .int .i64 t143, .int .i64 0, .int .i64 0, .int .u8 0]) ?_ 3 _ rfl; (with_reducible repeat (first | refine kN ?_ _ | refine kD ?_ | refine kA ?_ _)); refine kP (cs := #[.int .u8 t141, .int .i64 t142, .int .i64 0, .int .i64 0, .int .i64 0, .int .u8 0]) ?_ 2 _ rfl; (with_reducible repeat (first | refine kN ?_ _ | refine kD ?_ | refine kA ?_ _)); refine kP (cs := #[.int .u8 t141, .int .i64 0, .int .i64 0, .int .i64 0, .int .i64 0, .int .u8 0]) ?_ 1 _ rfl; (with_reducible repeat (first | refine kN ?_ _ | refine kD ?_ | refine kA ?_ _)); refine kP (cs := #[.int .u8 0, .int .i64 0, .int .i64 0, .int .i64 0, .int .i64 0, .int .u8 0]) ?_ 0 _ rfl; (with_reducible repeat (first | refine kN ?_ _ | refine kD ?_ | refine kA ?_ _)); exact BK147.out)) : gb147 ≠ gb148)); have n12_ := Aside0.mk ((by rw [hg]; exact Nat.ne_of_gt (blk_lt (g := gb147) (o := .cells #[.int .u8 t141, .int .i64 t142, .int .i64 t143, .int .i64 t144, .int .i64 t145, .int .u8 t146] 23 (0, 0)) (by (with_reducible repeat (first | refine kN ?_ _ | refine kD ?_ | refine kA ?_ _)); refine kR ?_ NB147_123.out _; (with_reducible repeat (first | refine kN ?_ _ | refine kD ?_ | refine kA ?_ _)); refine kP (cs := #[.int .u8 t141, .int .i64 t142, .int .i64 t143, .int .i64 t144, .int .i64 t145, .int .u8 0]) ?_ 5 _ rfl; (with_reducible repeat (first | refine kN ?_ _ | refine kD ?_ | refine kA ?_ _)); refine kP (cs := #[.int .u8 t141, .int .i64 t142, .int .i64 t143, .int .i64 t144, .int .i64 0, .int .u8 0]) ?_ 4 _ rfl; (with_reducible repeat (first | refine kN ?_ _ | refine kD ?_ | refine kA ?_ _)); refine kP (cs := #[.int .u8 t141, .int .i64 t142, .int .i64 t143, .int .i64 0, .int .i64 0, .int .u8 0]) ?_ 3 _ rfl; (with_reducible repeat (first | refine kN ?_ _ | refine kD ?_ | refine kA ?_ _)); refine kP (cs := #[.int .u8 t141, .int .i64 t142, .int .i64 0, .int .i64 0, .int .i64 0, .int .u8 0]) ?_ 2 _ rfl; (with_reducible repeat (first | refine kN ?_ _ | refine kD ?_ | refine kA ?_ _)); refine kP (cs := #[.int .u8 t141, .int .i64 0, .int .i64 0, .int .i64 0, .int .i64 0, .int .u8 0]) ?_ 1 _ rfl; (with_reducible repeat (first | refine kN ?_ _ | refine kD ?_ | refine kA ?_ _)); refine kP (cs := #[.int .u8 0, .int .i64 0, .int .i64 0, .int .i64 0, .int .i64 0, .int .u8 0]) ?_ 0 _ rfl; (with_reducible repeat (first | refine kN ?_ _ | refine kD ?_ | refine kA ?_ _)); exact BK147.out)) : gb148 ≠ gb147)); clear BK123; clear BK140; clear BK147; clear HB; have BK123 := n0_; have BK140 := n1_; have BK147 := n2_; have HB := n3_; have BK148 := n4_; have GW148 := n5_; have GE148 := n6_; have NB123_148 := n7_; have NB148_123 := n8_; have NB140_148 := n9_; have NB148_140 := n10_; have NB147_148 := n11_; have NB148_147 := n12_; clear n0_ n1_ n2_ n3_ n4_ n5_ n6_ n7_ n8_ n9_ n10_ n11_ n12_; clear hb hbox hg; have hnb41 := NB148_123.out; have hnc41 := NB123_148.out; have hnb42 := NB148_140.out; have hnc42 := NB140_148.out; have hnb43 := NB148_147.out; have hnc43 := NB147_148.out; have hcz44_0 : w40.cell? ⟨gb148, 0, none⟩ = some (.int .u8 0) := (kC BK148.out 0).trans rfl; have hcz44_1 : w40.cell? ⟨gb148, 1, none⟩ = some (.int .i64 0) := (kC BK148.out 1).trans rfl; have hcz44_2 : w40.cell? ⟨gb148, 2, none⟩ = some (.int .i64 0) := (kC BK148.out 2).trans rfl; have hcz44_3 : w40.cell? ⟨gb148, 3, none⟩ = some (.int .i64 0) := (kC BK148.out 3).trans rfl; have hcz44_4 : w40.cell? ⟨gb148, 4, none⟩ = some (.int .i64 0) := (kC BK148.out 4).trans rfl; have hcz44_5 : w40.cell? ⟨gb148, 5, none⟩ = some (.int .u8 0) := (kC BK148.out 5).trans rfl; have hfz44_0 := kF BK148.out 0; have hfz44_1 := kF BK148.out 1; have hfz44_2 := kF BK148.out 2; have hfz44_3 := kF BK148.out 3; have hfz44_4 := kF BK148.out 4; have hfz44_5 := kF BK148.out 5))
            have pi160 : (0 ≤ ((ji4) : Int)) = True := eq_true (of_decide_eq_true (by first | (with_reducible assumption) | assumption))
            have qi160 : ((ji4) < (y157.length : Int)) = True := eq_true (of_decide_eq_true (by first | (with_reducible assumption) | assumption))
            have n0_ : Aside0 ((((((((w40.setCell ⟨gb148, 0, none⟩ (.int .u8 t124)).setCell ⟨gb148, 1, none⟩ (.int .i64 t125)).setCell ⟨gb148, 2, none⟩ (.int .i64 t126)).setCell ⟨gb148, 3, none⟩ (.int .i64 t127)).setCell ⟨gb148, 4, none⟩ (.int .i64 t128)).setCell ⟨gb148, 5, none⟩ (.int .u8 0)).setCell ⟨gb148, 5, none⟩ (.int .u8 a1)).heap[gb123]? = some (.cells #[.int .u8 t124, .int .i64 t125, .int .i64 t126, .int .i64 t127, .int .i64 t128, .int .u8 0] 23 (0, 0))) := ⟨by (with_reducible repeat (first | refine kN ?_ _ | refine kD ?_ | refine kA ?_ _)); refine kR ?_ NB123_148.out _; (with_reducible repeat (first | refine kN ?_ _ | refine kD ?_ | refine kA ?_ _)); refine kR ?_ NB123_148.out _; (with_reducible repeat (first | refine kN ?_ _ | refine kD ?_ | refine kA ?_ _)); refine kR ?_ NB123_148.out _; (with_reducible repeat (first | refine kN ?_ _ | refine kD ?_ | refine kA ?_ _)); refine kR ?_ NB123_148.out _; (with_reducible repeat (first | refine kN ?_ _ | refine kD ?_ | refine kA ?_ _)); refine kR ?_ NB123_148.out _; (with_reducible repeat (first | refine kN ?_ _ | refine kD ?_ | refine kA ?_ _)); refine kR ?_ NB123_148.out _; (with_reducible repeat (first | refine kN ?_ _ | refine kD ?_ | refine kA ?_ _)); refine kR ?_ NB123_148.out _; (with_reducible repeat (first | refine kN ?_ _ | refine kD ?_ | refine kA ?_ _)); exact BK123.out⟩
            have n1_ : Aside0 ((((((((w40.setCell ⟨gb148, 0, none⟩ (.int .u8 t124)).setCell ⟨gb148, 1, none⟩ (.int .i64 t125)).setCell ⟨gb148, 2, none⟩ (.int .i64 t126)).setCell ⟨gb148, 3, none⟩ (.int .i64 t127)).setCell ⟨gb148, 4, none⟩ (.int .i64 t128)).setCell ⟨gb148, 5, none⟩ (.int .u8 0)).setCell ⟨gb148, 5, none⟩ (.int .u8 a1)).heap[gb140]? = some (.cells #[.int .u8 t134, .int .i64 t135, .int .i64 t136, .int .i64 t137, .int .i64 t138, .int .u8 t139] 23 (0, 0))) := ⟨by (with_reducible repeat (first | refine kN ?_ _ | refine kD ?_ | refine kA ?_ _)); refine kR ?_ NB140_148.out _; (with_reducible repeat (first | refine kN ?_ _ | refine kD ?_ | refine kA ?_ _)); refine kR ?_ NB140_148.out _; (with_reducible repeat (first | refine kN ?_ _ | refine kD ?_ | refine kA ?_ _)); refine kR ?_ NB140_148.out _; (with_reducible repeat (first | refine kN ?_ _ | refine kD ?_ | refine kA ?_ _)); refine kR ?_ NB140_148.out _; (with_reducible repeat (first | refine kN ?_ _ | refine kD ?_ | refine kA ?_ _)); refine kR ?_ NB140_148.out _; (with_reducible repeat (first | refine kN ?_ _ | refine kD ?_ | refine kA ?_ _)); refine kR ?_ NB140_148.out _; (with_reducible repeat (first | refine kN ?_ _ | refine kD ?_ | refine kA ?_ _)); refine kR ?_ NB140_148.out _; (with_reducible repeat (first | refine kN ?_ _ | refine kD ?_ | refine kA ?_ _)); exact BK140.out⟩
            have n2_ : Aside0 ((((((((w40.setCell ⟨gb148, 0, none⟩ (.int .u8 t124)).setCell ⟨gb148, 1, none⟩ (.int .i64 t125)).setCell ⟨gb148, 2, none⟩ (.int .i64 t126)).setCell ⟨gb148, 3, none⟩ (.int .i64 t127)).setCell ⟨gb148, 4, none⟩ (.int .i64 t128)).setCell ⟨gb148, 5, none⟩ (.int .u8 0)).setCell ⟨gb148, 5, none⟩ (.int .u8 a1)).heap[gb147]? = some (.cells #[.int .u8 t141, .int .i64 t142, .int .i64 t143, .int .i64 t144, .int .i64 t145, .int .u8 t146] 23 (0, 0))) := ⟨by (with_reducible repeat (first | refine kN ?_ _ | refine kD ?_ | refine kA ?_ _)); refine kR ?_ NB147_148.out _; (with_reducible repeat (first | refine kN ?_ _ | refine kD ?_ | refine kA ?_ _)); refine kR ?_ NB147_148.out _; (with_reducible repeat (first | refine kN ?_ _ | refine kD ?_ | refine kA ?_ _)); refine kR ?_ NB147_148.out _; (with_reducible repeat (first | refine kN ?_ _ | refine kD ?_ | refine kA ?_ _)); refine kR ?_ NB147_148.out _; (with_reducible repeat (first | refine kN ?_ _ | refine kD ?_ | refine kA ?_ _)); refine kR ?_ NB147_148.out _; (with_reducible repeat (first | refine kN ?_ _ | refine kD ?_ | refine kA ?_ _)); refine kR ?_ NB147_148.out _; (with_reducible repeat (first | refine kN ?_ _ | refine kD ?_ | refine kA ?_ _)); refine kR ?_ NB147_148.out _; (with_reducible repeat (first | refine kN ?_ _ | refine kD ?_ | refine kA ?_ _)); exact BK147.out⟩
            have n3_ : Aside0 ((((((((w40.setCell ⟨gb148, 0, none⟩ (.int .u8 t124)).setCell ⟨gb148, 1, none⟩ (.int .i64 t125)).setCell ⟨gb148, 2, none⟩ (.int .i64 t126)).setCell ⟨gb148, 3, none⟩ (.int .i64 t127)).setCell ⟨gb148, 4, none⟩ (.int .i64 t128)).setCell ⟨gb148, 5, none⟩ (.int .u8 0)).setCell ⟨gb148, 5, none⟩ (.int .u8 a1)).heap[gb148]? = some (.cells #[.int .u8 t124, .int .i64 t125, .int .i64 t126, .int .i64 t127, .int .i64 t128, .int .u8 a1] 23 (0, 0))) := ⟨by (with_reducible repeat (first | refine kN ?_ _ | refine kD ?_ | refine kA ?_ _)); refine kP (cs := #[.int .u8 t124, .int .i64 t125, .int .i64 t126, .int .i64 t127, .int .i64 t128, .int .u8 0]) ?_ 5 _ rfl; (with_reducible repeat (first | refine kN ?_ _ | refine kD ?_ | refine kA ?_ _)); refine kP (cs := #[.int .u8 t124, .int .i64 t125, .int .i64 t126, .int .i64 t127, .int .i64 t128, .int .u8 0]) ?_ 5 _ rfl; (with_reducible repeat (first | refine kN ?_ _ | refine kD ?_ | refine kA ?_ _)); refine kP (cs := #[.int .u8 t124, .int .i64 t125, .int .i64 t126, .int .i64 t127, .int .i64 0, .int .u8 0]) ?_ 4 _ rfl; (with_reducible repeat (first | refine kN ?_ _ | refine kD ?_ | refine kA ?_ _)); refine kP (cs := #[.int .u8 t124, .int .i64 t125, .int .i64 t126, .int .i64 0, .int .i64 0, .int .u8 0]) ?_ 3 _ rfl; (with_reducible repeat (first | refine kN ?_ _ | refine kD ?_ | refine kA ?_ _)); refine kP (cs := #[.int .u8 t124, .int .i64 t125, .int .i64 0, .int .i64 0, .int .i64 0, .int .u8 0]) ?_ 2 _ rfl; (with_reducible repeat (first | refine kN ?_ _ | refine kD ?_ | refine kA ?_ _)); refine kP (cs := #[.int .u8 t124, .int .i64 0, .int .i64 0, .int .i64 0, .int .i64 0, .int .u8 0]) ?_ 1 _ rfl; (with_reducible repeat (first | refine kN ?_ _ | refine kD ?_ | refine kA ?_ _)); refine kP (cs := #[.int .u8 0, .int .i64 0, .int .i64 0, .int .i64 0, .int .i64 0, .int .u8 0]) ?_ 0 _ rfl; (with_reducible repeat (first | refine kN ?_ _ | refine kD ?_ | refine kA ?_ _)); exact BK148.out⟩
            have n4_ : Aside0 (Below w.heap.size w (((((((w40.setCell ⟨gb148, 0, none⟩ (.int .u8 t124)).setCell ⟨gb148, 1, none⟩ (.int .i64 t125)).setCell ⟨gb148, 2, none⟩ (.int .i64 t126)).setCell ⟨gb148, 3, none⟩ (.int .i64 t127)).setCell ⟨gb148, 4, none⟩ (.int .i64 t128)).setCell ⟨gb148, 5, none⟩ (.int .u8 0)).setCell ⟨gb148, 5, none⟩ (.int .u8 a1))) := ⟨by repeat (first | (with_reducible first | exact HB.out | apply kL | apply kM | apply kE | refine kS ?_ GE123.out | refine kS ?_ GE140.out | refine kS ?_ GE147.out | refine kS ?_ GE148.out) | exact HB.out)⟩
            (try clear BK123)
            (try clear BK140)
            (try clear BK147)
            (try clear BK148)
            (try clear HB)
            generalize (((((((w40.setCell ⟨gb148, 0, none⟩ (.int .u8 t124)).setCell ⟨gb148, 1, none⟩ (.int .i64 t125)).setCell ⟨gb148, 2, none⟩ (.int .i64 t126)).setCell ⟨gb148, 3, none⟩ (.int .i64 t127)).setCell ⟨gb148, 4, none⟩ (.int .i64 t128)).setCell ⟨gb148, 5, none⟩ (.int .u8 0)).setCell ⟨gb148, 5, none⟩ (.int .u8 a1)) = w45 at n0_ n1_ n2_ n3_ n4_ ⊢
            have BK123 := n0_
            have BK140 := n1_
            have BK147 := n2_
            have BK148 := n3_
            have HB := n4_
            clear n0_ n1_ n2_ n3_ n4_
            have n0_ := Aside0.mk (kD BK123.out)
            have n1_ := Aside0.mk (kD BK140.out)
            have n2_ := Aside0.mk (kD BK147.out)
            have n3_ := Aside0.mk (kD BK148.out)
            have n4_ := Aside0.mk (kE HB.out)
            clear BK123
            clear BK140
            clear BK147
            clear BK148
            clear HB
            have BK123 := n0_
            have BK140 := n1_
            have BK147 := n2_
            have BK148 := n3_
            have HB := n4_
            clear n0_ n1_ n2_ n3_ n4_
            refine start_ (n := 32) (S := fun w' => True) (ds := []) #[F,F,F,F,F,F,F,F,F,F,F,F,F,F,F,F,F,F,F,F,F,F,F,F,F,F,F,F,F,F,F,F] (by kernel_rfl) rfl rfl trivial (fun hHeld => ?_); refine with_tabW paybooklaw11_NoticeParties.tab10 paybooklaw11_NoticeParties.bits10 (fun HT_ HW_ => ?_)
            generalize w45.drew = w46 at BK123 BK140 BK147 BK148 HB hHeld ⊢
            refine inv_at [0, 1, 2, 3, 4, 5, 6, 7, 8, 9, 10, 11, 12, 13, 14, 15, 16, 17, 18, 19, 20, 21, 22, 23, 24, 25, 26, 27, 28, 29, 30, 31] (fun a0_ b a w' => ∃ (v158 : Value) (adz_v158 : Addr) (m9_ : Value), a = putSel a0_ b [(0, 29, .bool true), (1, 30, .bool true), (2, 31, .agg #[.int .u8 t124, .int .i64 t125, .int .i64 t126, .int .i64 t127, .int .i64 t128, .int .u8 0]), (3, 32, .agg #[.int .u8 t150, .int .i64 t151, .int .i64 t152, .int .i64 t153, .int .i64 t154, .int .u8 t155]), (4, 33, .int .u8 t156), (5, 34, v158), (6, 35, .pointer (some ⟨gb123, 0, none⟩)), (7, 36, .int .u8 t124), (8, 37, .int .u8 ji4), (9, 38, m9_), (10, 39, .int .u8 (rd y157 (ji4))), (11, 40, .bool (t156 == (rd y157 (ji4)))), (12, 41, .bool (t156 == (rd y157 (ji4)))), (13, 42, .bool (t156 == (rd y157 (ji4)))), (14, 43, .agg #[.int .u8 t134, .int .i64 t135, .int .i64 t136, .int .i64 t137, .int .i64 t138, .int .u8 t139]), (15, 44, .agg #[.int .u8 t124, .int .i64 t125, .int .i64 t126, .int .i64 t127, .int .i64 t128, .int .u8 a1]), (16, 45, .bool (t134 == t124 && (t135 == t125 && (t136 == t126 && (t137 == t127 && (t138 == t128 && (t139 == a1))))))), (17, 46, .bool (t134 == t124 && (t135 == t125 && (t136 == t126 && (t137 == t127 && (t138 == t128 && (t139 == a1))))))), (18, 47, .bool (t134 == t124 && (t135 == t125 && (t136 == t126 && (t137 == t127 && (t138 == t128 && (t139 == a1))))))), (19, 48, .agg #[.int .u8 t141, .int .i64 t142, .int .i64 t143, .int .i64 t144, .int .i64 t145, .int .u8 t146]), (20, 49, .agg #[.int .u8 t124, .int .i64 t125, .int .i64 t126, .int .i64 t127, .int .i64 t128, .int .u8 0]), (21, 50, .bool (t141 == t124 && (t142 == t125 && (t143 == t126 && (t144 == t127 && (t145 == t128 && (t146 == 0))))))), (22, 51, .bool (t141 == t124 && (t142 == t125 && (t143 == t126 && (t144 == t127 && (t145 == t128 && (t146 == 0))))))), (23, 52, .bool (t141 == t124 && (t142 == t125 && (t143 == t126 && (t144 == t127 && (t145 == t128 && (t146 == 0))))))), (24, 53, .int .u8 x5_6), (25, 54, .bool (decide (x5_6 < 3))), (26, 55, .bool (decide (x5_6 < 3))), (27, 56, undef), (28, 57, undef), (29, 58, .bool true), (30, 59, .bool true), (31, 4, .bool true)] ∧ (w'.heap[gb123]? = some (.cells #[.int .u8 t124, .int .i64 t125, .int .i64 t126, .int .i64 t127, .int .i64 t128, .int .u8 0] 23 (0, 0))) ∧ (w'.heap[gb140]? = some (.cells #[.int .u8 t134, .int .i64 t135, .int .i64 t136, .int .i64 t137, .int .i64 t138, .int .u8 t139] 23 (0, 0))) ∧ (w'.heap[gb147]? = some (.cells #[.int .u8 t141, .int .i64 t142, .int .i64 t143, .int .i64 t144, .int .i64 t145, .int .u8 t146] 23 (0, 0))) ∧ (w'.heap[gb148]? = some (.cells #[.int .u8 t124, .int .i64 t125, .int .i64 t126, .int .i64 t127, .int .i64 t128, .int .u8 a1] 23 (0, 0))) ∧ (Below w.heap.size w w') ∧ (b 5 = true → Kd.R (Kd.int .u8) 5 w' w.heap.size (fun _ => True) v158 y157) ∧ (b 5 = true → ∃ c_, (v158 : Value) = .slice (some adz_v158) y157.length c_) ∧ (b 9 = true → (m9_ : Value) = .pointer (some (adz_v158.add ((ji4)).toNat)))) HT_.out HW_.out (by kernel_rfl) (by kernel_rfl) ?_ ?_ ?_
            ·exact ⟨.bool false, ⟨0, 0, none⟩, .bool false, by simp only [putSel, Bool.false_eq_true, if_false], BK123.out, BK140.out, BK147.out, BK148.out, HB.out, fun h_ => absurd h_ (by decide), fun h_ => absurd h_ (by decide), fun h_ => absurd h_ (by decide)⟩
            ·skip
             clear BK123 BK140 BK147 BK148 HB
             refine steps_cons ?_ ?_
             ·rintro b a w' ⟨v158, adz_v158, m9_, ha, Q_BK123, Q_BK140, Q_BK147, Q_BK148, Q_HB, Q_HO159, Q_HA_HO159, Q_X9_⟩ hb_ hon hoff
              refine ⟨_, rfl, fun K hK => ?_⟩
              replace ha := Aside0.mk ha
              have BK123 := Aside0.mk Q_BK123
              have BK140 := Aside0.mk Q_BK140
              have BK147 := Aside0.mk Q_BK147
              have BK148 := Aside0.mk Q_BK148
              have HB := Aside0.mk Q_HB
              refine goes_ Try.func8 (by kernel_rfl) rfl #[] (by rfl) rfl rfl (by first | (simp only [List.map_toArray, List.map_cons, List.map_nil, Act.eval, Array.getD_eq_getD_getElem?, Option.getD_some]; done) | (simp only [List.map_toArray, List.map_cons, List.map_nil, Act.eval, Array.getD_eq_getD_getElem?, Option.getD_some]; rfl)) ?_
              with_reducible refine (paybooklaw11_awake.calls kj6  true _ A19.out).mono ?_
              rintro e w47 ⟨rfl, hb⟩
              refine ⟨_, rfl, ?_⟩
              have n0_ := Aside0.mk (blk_below (g := gb123) (o := .cells #[.int .u8 t124, .int .i64 t125, .int .i64 t126, .int .i64 t127, .int .i64 t128, .int .u8 0] 23 (0, 0)) (by (with_reducible repeat (first | refine kN ?_ _ | refine kD ?_ | refine kA ?_ _)); exact BK123.out) hb)
              have n1_ := Aside0.mk (blk_below (g := gb140) (o := .cells #[.int .u8 t134, .int .i64 t135, .int .i64 t136, .int .i64 t137, .int .i64 t138, .int .u8 t139] 23 (0, 0)) (by (with_reducible repeat (first | refine kN ?_ _ | refine kD ?_ | refine kA ?_ _)); exact BK140.out) hb)
              have n2_ := Aside0.mk (blk_below (g := gb147) (o := .cells #[.int .u8 t141, .int .i64 t142, .int .i64 t143, .int .i64 t144, .int .i64 t145, .int .u8 t146] 23 (0, 0)) (by (with_reducible repeat (first | refine kN ?_ _ | refine kD ?_ | refine kA ?_ _)); exact BK147.out) hb)
              have n3_ := Aside0.mk (blk_below (g := gb148) (o := .cells #[.int .u8 t124, .int .i64 t125, .int .i64 t126, .int .i64 t127, .int .i64 t128, .int .u8 a1] 23 (0, 0)) (by (with_reducible repeat (first | refine kN ?_ _ | refine kD ?_ | refine kA ?_ _)); exact BK148.out) hb)
              have n4_ := Aside0.mk (below_step (by repeat (first | (with_reducible first | exact HB.out | apply kL | apply kM | apply kE | refine kS ?_ GE123.out | refine kS ?_ GE140.out | refine kS ?_ GE147.out | refine kS ?_ GE148.out) | exact HB.out)) hb)
              clear BK123
              clear BK140
              clear BK147
              clear BK148
              clear HB
              have BK123 := n0_
              have BK140 := n1_
              have BK147 := n2_
              have BK148 := n3_
              have HB := n4_
              clear n0_ n1_ n2_ n3_ n4_
              (try clear hb)
              (try clear hb2)
              (try clear hk)
              (try clear hi)
              refine hK.out _ _ ⟨v158, adz_v158, m9_, (by rw [ha.out]; exact putSel_upk 0 hb_ rfl rfl rfl), (by (with_reducible repeat (first | refine kN ?_ _ | refine kD ?_ | refine kA ?_ _)); exact BK123.out), (by (with_reducible repeat (first | refine kN ?_ _ | refine kD ?_ | refine kA ?_ _)); exact BK140.out), (by (with_reducible repeat (first | refine kN ?_ _ | refine kD ?_ | refine kA ?_ _)); exact BK147.out), (by (with_reducible repeat (first | refine kN ?_ _ | refine kD ?_ | refine kA ?_ _)); exact BK148.out), (by repeat (first | (with_reducible first | exact HB.out | apply kL | apply kM | apply kE | refine kS ?_ GE123.out | refine kS ?_ GE140.out | refine kS ?_ GE147.out | refine kS ?_ GE148.out) | exact HB.out)), fun h0_ => absurd ((hoff 5 (by kernel_rfl)).symm.trans h0_) (by decide), fun h0_ => absurd ((hoff 5 (by kernel_rfl)).symm.trans h0_) (by decide), fun h0_ => absurd ((hoff 9 (by kernel_rfl)).symm.trans h0_) (by decide)⟩
             refine steps_cons ?_ ?_
             ·rintro b a w' ⟨v158, adz_v158, m9_, ha, Q_BK123, Q_BK140, Q_BK147, Q_BK148, Q_HB, Q_HO159, Q_HA_HO159, Q_X9_⟩ hb_ hon hoff
              refine ⟨_, rfl, fun K hK => ?_⟩
              have e29 : a.tmps[29]? = some (.bool true) := by rw [ha]; exact putSel_on (e := (0, 29, .bool true)) 0 rfl rfl (hon 0 (by kernel_rfl)) rfl
              replace ha := Aside0.mk ha
              have BK123 := Aside0.mk Q_BK123
              have BK140 := Aside0.mk Q_BK140
              have BK147 := Aside0.mk Q_BK147
              have BK148 := Aside0.mk Q_BK148
              have HB := Aside0.mk Q_HB
              refine value_ (w1 := w') (v := .bool true) (by rfl) rfl ?_ ?_
              ·go_simp
               (try simp only [i64_w])
               try rfl
              refine hK.out _ _ ⟨v158, adz_v158, m9_, (by rw [ha.out]; exact putSel_upk 1 hb_ rfl rfl rfl), Q_BK123, Q_BK140, Q_BK147, Q_BK148, Q_HB, fun h0_ => absurd ((hoff 5 (by kernel_rfl)).symm.trans h0_) (by decide), fun h0_ => absurd ((hoff 5 (by kernel_rfl)).symm.trans h0_) (by decide), fun h0_ => absurd ((hoff 9 (by kernel_rfl)).symm.trans h0_) (by decide)⟩
             refine steps_cons ?_ ?_
             ·rintro b a w' ⟨v158, adz_v158, m9_, ha, Q_BK123, Q_BK140, Q_BK147, Q_BK148, Q_HB, Q_HO159, Q_HA_HO159, Q_X9_⟩ hb_ hon hoff
              refine ⟨_, rfl, fun K hK => ?_⟩
              have e2 : a.tmps[2]? = some (.pointer (some ⟨gb123, 0, none⟩)) := by rw [ha]; exact (putSel_off rfl).trans rfl
              have e30 : a.tmps[30]? = some (.bool true) := by rw [ha]; exact putSel_on (e := (1, 30, .bool true)) 1 rfl rfl (hon 1 (by kernel_rfl)) rfl
              replace ha := Aside0.mk ha
              have BK123 := Aside0.mk Q_BK123
              have BK140 := Aside0.mk Q_BK140
              have BK147 := Aside0.mk Q_BK147
              have BK148 := Aside0.mk Q_BK148
              have HB := Aside0.mk Q_HB
              have hc0_ : w'.cell? ⟨gb123, 0, none⟩ = some (.int .u8 t124) := (kC BK123.out 0).trans rfl
              have hc1_ : w'.cell? ⟨gb123, 1, none⟩ = some (.int .i64 t125) := (kC BK123.out 1).trans rfl
              have hc2_ : w'.cell? ⟨gb123, 2, none⟩ = some (.int .i64 t126) := (kC BK123.out 2).trans rfl
              have hc3_ : w'.cell? ⟨gb123, 3, none⟩ = some (.int .i64 t127) := (kC BK123.out 3).trans rfl
              have hc4_ : w'.cell? ⟨gb123, 4, none⟩ = some (.int .i64 t128) := (kC BK123.out 4).trans rfl
              have hc5_ : w'.cell? ⟨gb123, 5, none⟩ = some (.int .u8 0) := (kC BK123.out 5).trans rfl
              refine value_ (w1 := w') (v := .agg #[.int .u8 t124, .int .i64 t125, .int .i64 t126, .int .i64 t127, .int .i64 t128, .int .u8 0]) (wanted_on rfl rfl rfl (e30.trans (by first | rfl | (simp [*]; done)))) rfl ?_ ?_
              ·go_simp
               (try simp only [i64_w])
               try rfl
              refine hK.out _ _ ⟨v158, adz_v158, m9_, (by rw [ha.out]; exact putSel_upk 2 hb_ rfl rfl rfl), Q_BK123, Q_BK140, Q_BK147, Q_BK148, Q_HB, Q_HO159, Q_HA_HO159, Q_X9_⟩
             refine steps_cons ?_ ?_
             ·rintro b a w' ⟨v158, adz_v158, m9_, ha, Q_BK123, Q_BK140, Q_BK147, Q_BK148, Q_HB, Q_HO159, Q_HA_HO159, Q_X9_⟩ hb_ hon hoff
              refine ⟨_, rfl, fun K hK => ?_⟩
              have e31 : a.tmps[31]? = some (.agg #[.int .u8 t124, .int .i64 t125, .int .i64 t126, .int .i64 t127, .int .i64 t128, .int .u8 0]) := by rw [ha]; exact putSel_on (e := (2, 31, .agg #[.int .u8 t124, .int .i64 t125, .int .i64 t126, .int .i64 t127, .int .i64 t128, .int .u8 0])) 2 rfl rfl (hon 2 (by kernel_rfl)) rfl
              have e30 : a.tmps[30]? = some (.bool true) := by rw [ha]; exact putSel_on (e := (1, 30, .bool true)) 1 rfl rfl (hon 1 (by kernel_rfl)) rfl
              replace ha := Aside0.mk ha
              have BK123 := Aside0.mk Q_BK123
              have BK140 := Aside0.mk Q_BK140
              have BK147 := Aside0.mk Q_BK147
              have BK148 := Aside0.mk Q_BK148
              have HB := Aside0.mk Q_HB
              refine goes_ Try.func7 (by kernel_rfl) rfl #[.agg #[.int .u8 t124, .int .i64 t125, .int .i64 t126, .int .i64 t127, .int .i64 t128, .int .u8 0]] (wanted_on rfl rfl rfl (e30.trans (by first | rfl | (simp [*]; done)))) rfl rfl (by first | (simp only [List.map_toArray, List.map_cons, List.map_nil, Act.eval, Array.getD_eq_getD_getElem?, Option.getD_some, e31, e30]; done) | (simp only [List.map_toArray, List.map_cons, List.map_nil, Act.eval, Array.getD_eq_getD_getElem?, Option.getD_some, e31, e30]; rfl)) ?_
              with_reducible refine (notice_Asked.calls t124 t125 t126 t127 t128 0 t150 t151 t152 t153 t154 t155 _ A21.out).mono ?_
              rintro e w49 ⟨rfl, hb⟩
              refine ⟨_, rfl, ?_⟩
              have n0_ := Aside0.mk (blk_below (g := gb123) (o := .cells #[.int .u8 t124, .int .i64 t125, .int .i64 t126, .int .i64 t127, .int .i64 t128, .int .u8 0] 23 (0, 0)) (by (with_reducible repeat (first | refine kN ?_ _ | refine kD ?_ | refine kA ?_ _)); exact BK123.out) hb)
              have n1_ := Aside0.mk (blk_below (g := gb140) (o := .cells #[.int .u8 t134, .int .i64 t135, .int .i64 t136, .int .i64 t137, .int .i64 t138, .int .u8 t139] 23 (0, 0)) (by (with_reducible repeat (first | refine kN ?_ _ | refine kD ?_ | refine kA ?_ _)); exact BK140.out) hb)
              have n2_ := Aside0.mk (blk_below (g := gb147) (o := .cells #[.int .u8 t141, .int .i64 t142, .int .i64 t143, .int .i64 t144, .int .i64 t145, .int .u8 t146] 23 (0, 0)) (by (with_reducible repeat (first | refine kN ?_ _ | refine kD ?_ | refine kA ?_ _)); exact BK147.out) hb)
              have n3_ := Aside0.mk (blk_below (g := gb148) (o := .cells #[.int .u8 t124, .int .i64 t125, .int .i64 t126, .int .i64 t127, .int .i64 t128, .int .u8 a1] 23 (0, 0)) (by (with_reducible repeat (first | refine kN ?_ _ | refine kD ?_ | refine kA ?_ _)); exact BK148.out) hb)
              have n4_ := Aside0.mk (below_step (by repeat (first | (with_reducible first | exact HB.out | apply kL | apply kM | apply kE | refine kS ?_ GE123.out | refine kS ?_ GE140.out | refine kS ?_ GE147.out | refine kS ?_ GE148.out) | exact HB.out)) hb)
              have z_HO159 := fun (h0_ : b 5 = true) => (show Kd.R (Kd.int .u8) 5 w49 w.heap.size (fun _ => True) v158 y157 from by first | exact (Kd.R_below (by (with_reducible repeat (first | apply Kd.R_alloc | apply Kd.R_drewN | apply Kd.R_drew)); exact (Q_HO159 h0_)) hb) | exact Kd.R_mono (Kd.R_below (by (with_reducible repeat (first | apply Kd.R_alloc | apply Kd.R_drewN | apply Kd.R_drew)); exact (Q_HO159 h0_)) hb) (fun _ h_ => by first | trivial | exact h_ | exact h_.1))
              clear BK123
              clear BK140
              clear BK147
              clear BK148
              clear HB
              have BK123 := n0_
              have BK140 := n1_
              have BK147 := n2_
              have BK148 := n3_
              have HB := n4_
              clear n0_ n1_ n2_ n3_ n4_
              (try clear hb)
              (try clear hb2)
              (try clear hk)
              (try clear hi)
              refine hK.out _ _ ⟨v158, adz_v158, m9_, (by rw [ha.out]; exact putSel_upk 3 hb_ rfl rfl rfl), (by (with_reducible repeat (first | refine kN ?_ _ | refine kD ?_ | refine kA ?_ _)); exact BK123.out), (by (with_reducible repeat (first | refine kN ?_ _ | refine kD ?_ | refine kA ?_ _)); exact BK140.out), (by (with_reducible repeat (first | refine kN ?_ _ | refine kD ?_ | refine kA ?_ _)); exact BK147.out), (by (with_reducible repeat (first | refine kN ?_ _ | refine kD ?_ | refine kA ?_ _)); exact BK148.out), (by repeat (first | (with_reducible first | exact HB.out | apply kL | apply kM | apply kE | refine kS ?_ GE123.out | refine kS ?_ GE140.out | refine kS ?_ GE147.out | refine kS ?_ GE148.out) | exact HB.out)), z_HO159, Q_HA_HO159, Q_X9_⟩
             refine steps_cons ?_ ?_
             ·rintro b a w' ⟨v158, adz_v158, m9_, ha, Q_BK123, Q_BK140, Q_BK147, Q_BK148, Q_HB, Q_HO159, Q_HA_HO159, Q_X9_⟩ hb_ hon hoff
              refine ⟨_, rfl, fun K hK => ?_⟩
              have e32 : a.tmps[32]? = some (.agg #[.int .u8 t150, .int .i64 t151, .int .i64 t152, .int .i64 t153, .int .i64 t154, .int .u8 t155]) := by rw [ha]; exact putSel_on (e := (3, 32, .agg #[.int .u8 t150, .int .i64 t151, .int .i64 t152, .int .i64 t153, .int .i64 t154, .int .u8 t155])) 3 rfl rfl (hon 3 (by kernel_rfl)) rfl
              have e30 : a.tmps[30]? = some (.bool true) := by rw [ha]; exact putSel_on (e := (1, 30, .bool true)) 1 rfl rfl (hon 1 (by kernel_rfl)) rfl
              replace ha := Aside0.mk ha
              have BK123 := Aside0.mk Q_BK123
              have BK140 := Aside0.mk Q_BK140
              have BK147 := Aside0.mk Q_BK147
              have BK148 := Aside0.mk Q_BK148
              have HB := Aside0.mk Q_HB
              refine goes_ Try.func9 (by kernel_rfl) rfl #[.agg #[.int .u8 t150, .int .i64 t151, .int .i64 t152, .int .i64 t153, .int .i64 t154, .int .u8 t155]] (wanted_on rfl rfl rfl (e30.trans (by first | rfl | (simp [*]; done)))) rfl rfl (by first | (simp only [List.map_toArray, List.map_cons, List.map_nil, Act.eval, Array.getD_eq_getD_getElem?, Option.getD_some, e32, e30]; done) | (simp only [List.map_toArray, List.map_cons, List.map_nil, Act.eval, Array.getD_eq_getD_getElem?, Option.getD_some, e32, e30]; rfl)) ?_
              with_reducible refine (notice_Party.calls kj6 t150 t151 t152 t153 t154 t155 t156 _ A22.out).mono ?_
              rintro e w50 ⟨rfl, hb⟩
              refine ⟨_, rfl, ?_⟩
              have n0_ := Aside0.mk (blk_below (g := gb123) (o := .cells #[.int .u8 t124, .int .i64 t125, .int .i64 t126, .int .i64 t127, .int .i64 t128, .int .u8 0] 23 (0, 0)) (by (with_reducible repeat (first | refine kN ?_ _ | refine kD ?_ | refine kA ?_ _)); exact BK123.out) hb)
              have n1_ := Aside0.mk (blk_below (g := gb140) (o := .cells #[.int .u8 t134, .int .i64 t135, .int .i64 t136, .int .i64 t137, .int .i64 t138, .int .u8 t139] 23 (0, 0)) (by (with_reducible repeat (first | refine kN ?_ _ | refine kD ?_ | refine kA ?_ _)); exact BK140.out) hb)
              have n2_ := Aside0.mk (blk_below (g := gb147) (o := .cells #[.int .u8 t141, .int .i64 t142, .int .i64 t143, .int .i64 t144, .int .i64 t145, .int .u8 t146] 23 (0, 0)) (by (with_reducible repeat (first | refine kN ?_ _ | refine kD ?_ | refine kA ?_ _)); exact BK147.out) hb)
              have n3_ := Aside0.mk (blk_below (g := gb148) (o := .cells #[.int .u8 t124, .int .i64 t125, .int .i64 t126, .int .i64 t127, .int .i64 t128, .int .u8 a1] 23 (0, 0)) (by (with_reducible repeat (first | refine kN ?_ _ | refine kD ?_ | refine kA ?_ _)); exact BK148.out) hb)
              have n4_ := Aside0.mk (below_step (by repeat (first | (with_reducible first | exact HB.out | apply kL | apply kM | apply kE | refine kS ?_ GE123.out | refine kS ?_ GE140.out | refine kS ?_ GE147.out | refine kS ?_ GE148.out) | exact HB.out)) hb)
              have z_HO159 := fun (h0_ : b 5 = true) => (show Kd.R (Kd.int .u8) 5 w50 w.heap.size (fun _ => True) v158 y157 from by first | exact (Kd.R_below (by (with_reducible repeat (first | apply Kd.R_alloc | apply Kd.R_drewN | apply Kd.R_drew)); exact (Q_HO159 h0_)) hb) | exact Kd.R_mono (Kd.R_below (by (with_reducible repeat (first | apply Kd.R_alloc | apply Kd.R_drewN | apply Kd.R_drew)); exact (Q_HO159 h0_)) hb) (fun _ h_ => by first | trivial | exact h_ | exact h_.1))
              clear BK123
              clear BK140
              clear BK147
              clear BK148
              clear HB
              have BK123 := n0_
              have BK140 := n1_
              have BK147 := n2_
              have BK148 := n3_
              have HB := n4_
              clear n0_ n1_ n2_ n3_ n4_
              (try clear hb)
              (try clear hb2)
              (try clear hk)
              (try clear hi)
              refine hK.out _ _ ⟨v158, adz_v158, m9_, (by rw [ha.out]; exact putSel_upk 4 hb_ rfl rfl rfl), (by (with_reducible repeat (first | refine kN ?_ _ | refine kD ?_ | refine kA ?_ _)); exact BK123.out), (by (with_reducible repeat (first | refine kN ?_ _ | refine kD ?_ | refine kA ?_ _)); exact BK140.out), (by (with_reducible repeat (first | refine kN ?_ _ | refine kD ?_ | refine kA ?_ _)); exact BK147.out), (by (with_reducible repeat (first | refine kN ?_ _ | refine kD ?_ | refine kA ?_ _)); exact BK148.out), (by repeat (first | (with_reducible first | exact HB.out | apply kL | apply kM | apply kE | refine kS ?_ GE123.out | refine kS ?_ GE140.out | refine kS ?_ GE147.out | refine kS ?_ GE148.out) | exact HB.out)), z_HO159, Q_HA_HO159, Q_X9_⟩
             refine steps_cons ?_ ?_
             ·rintro b a w' ⟨v158, adz_v158, m9_, ha, Q_BK123, Q_BK140, Q_BK147, Q_BK148, Q_HB, Q_HO159, Q_HA_HO159, Q_X9_⟩ hb_ hon hoff
              refine ⟨_, rfl, fun K hK => ?_⟩
              have e30 : a.tmps[30]? = some (.bool true) := by rw [ha]; exact putSel_on (e := (1, 30, .bool true)) 1 rfl rfl (hon 1 (by kernel_rfl)) rfl
              replace ha := Aside0.mk ha
              have BK123 := Aside0.mk Q_BK123
              have BK140 := Aside0.mk Q_BK140
              have BK147 := Aside0.mk Q_BK147
              have BK148 := Aside0.mk Q_BK148
              have HB := Aside0.mk Q_HB
              refine Kd.R_lit_step (Kd.int .u8) _ 5 ?hg (N := 34) ?hd (xs := ([0, 0, 1, 1, 2] : List Int)) (inner := [.int .u8 0, .int .u8 0, .int .u8 1, .int .u8 1, .int .u8 2]) (ok := fun _ => True) (okp := fun _ => True) ?hr ?hp (fun _ hk => hk) trivial (Below.refl _ _) (Nat.le_refl _) (by simp) ?_; (case hd => rfl); (case hg => exact (wanted_on rfl rfl rfl (e30.trans (by first | rfl | (simp [*]; done))))); (case hr => first | (go_simp; done) | (go_simp; rfl)); (case hp => exact (Reps.one (show Kd.M (Kd.int .u8) _ _ _ 0 [.int .u8 0] from rfl) (Reps.one (show Kd.M (Kd.int .u8) _ _ _ 0 [.int .u8 0] from rfl) (Reps.one (show Kd.M (Kd.int .u8) _ _ _ 1 [.int .u8 1] from rfl) (Reps.one (show Kd.M (Kd.int .u8) _ _ _ 1 [.int .u8 1] from rfl) (Reps.one (show Kd.M (Kd.int .u8) _ _ _ 2 [.int .u8 2] from rfl) (Reps.none _ _)))))))
              intro v158 w49 ho50 hb hg_ hnew_
              clear hg_ hnew_
              (first | rw [← Ny157.out] at ho50 | (simp only [Int.reduceToNat] at ho50; rw [← Ny157.out] at ho50))
              have n0_ := Aside0.mk (Kd.R_lower ho50 (below_size (by repeat (first | (with_reducible first | exact HB.out | apply kL | apply kM | apply kE | refine kS ?_ GE123.out | refine kS ?_ GE140.out | refine kS ?_ GE147.out | refine kS ?_ GE148.out) | exact HB.out))))
              have n1_ := Aside0.mk (blk_below (g := gb123) (o := .cells #[.int .u8 t124, .int .i64 t125, .int .i64 t126, .int .i64 t127, .int .i64 t128, .int .u8 0] 23 (0, 0)) (by (with_reducible repeat (first | refine kN ?_ _ | refine kD ?_ | refine kA ?_ _)); exact BK123.out) hb)
              have n2_ := Aside0.mk (blk_below (g := gb140) (o := .cells #[.int .u8 t134, .int .i64 t135, .int .i64 t136, .int .i64 t137, .int .i64 t138, .int .u8 t139] 23 (0, 0)) (by (with_reducible repeat (first | refine kN ?_ _ | refine kD ?_ | refine kA ?_ _)); exact BK140.out) hb)
              have n3_ := Aside0.mk (blk_below (g := gb147) (o := .cells #[.int .u8 t141, .int .i64 t142, .int .i64 t143, .int .i64 t144, .int .i64 t145, .int .u8 t146] 23 (0, 0)) (by (with_reducible repeat (first | refine kN ?_ _ | refine kD ?_ | refine kA ?_ _)); exact BK147.out) hb)
              have n4_ := Aside0.mk (blk_below (g := gb148) (o := .cells #[.int .u8 t124, .int .i64 t125, .int .i64 t126, .int .i64 t127, .int .i64 t128, .int .u8 a1] 23 (0, 0)) (by (with_reducible repeat (first | refine kN ?_ _ | refine kD ?_ | refine kA ?_ _)); exact BK148.out) hb)
              have n5_ := Aside0.mk (below_step (by repeat (first | (with_reducible first | exact HB.out | apply kL | apply kM | apply kE | refine kS ?_ GE123.out | refine kS ?_ GE140.out | refine kS ?_ GE147.out | refine kS ?_ GE148.out) | exact HB.out)) hb)
              clear BK123
              clear BK140
              clear BK147
              clear BK148
              clear HB
              have HO159 := n0_
              have BK123 := n1_
              have BK140 := n2_
              have BK147 := n3_
              have BK148 := n4_
              have HB := n5_
              clear n0_ n1_ n2_ n3_ n4_ n5_
              clear hb ho50
              obtain ⟨Ao51, co51, eo51⟩ := Kd.R_slice HO159.out
              subst eo51
              obtain ⟨ado51, fo51, _⟩ := Kd.at_int (Kd.R_reads' HO159.out).2.2 0 (by decide) (by rw [Ny157.out]; simp)
              cases fo51
              refine hK.out _ _ ⟨.slice (some ado51) y157.length co51, ado51, m9_, (by rw [ha.out]; exact putSel_upk 5 hb_ rfl rfl rfl), (by (with_reducible repeat (first | refine kN ?_ _ | refine kD ?_ | refine kA ?_ _)); exact BK123.out), (by (with_reducible repeat (first | refine kN ?_ _ | refine kD ?_ | refine kA ?_ _)); exact BK140.out), (by (with_reducible repeat (first | refine kN ?_ _ | refine kD ?_ | refine kA ?_ _)); exact BK147.out), (by (with_reducible repeat (first | refine kN ?_ _ | refine kD ?_ | refine kA ?_ _)); exact BK148.out), (by repeat (first | (with_reducible first | exact HB.out | apply kL | apply kM | apply kE | refine kS ?_ GE123.out | refine kS ?_ GE140.out | refine kS ?_ GE147.out | refine kS ?_ GE148.out) | exact HB.out)), fun _ => (by (with_reducible repeat (first | apply Kd.R_alloc | apply Kd.R_drewN | apply Kd.R_drew)); exact HO159.out), fun _ => ⟨_, rfl⟩, fun h0_ => absurd ((hoff 9 (by kernel_rfl)).symm.trans h0_) (by decide)⟩
             refine steps_cons ?_ ?_
             ·rintro b a w' ⟨v158, adz_v158, m9_, ha, Q_BK123, Q_BK140, Q_BK147, Q_BK148, Q_HB, Q_HO159, Q_HA_HO159, Q_X9_⟩ hb_ hon hoff
              refine ⟨_, rfl, fun K hK => ?_⟩
              have e2 : a.tmps[2]? = some (.pointer (some ⟨gb123, 0, none⟩)) := by rw [ha]; exact (putSel_off rfl).trans rfl
              have e30 : a.tmps[30]? = some (.bool true) := by rw [ha]; exact putSel_on (e := (1, 30, .bool true)) 1 rfl rfl (hon 1 (by kernel_rfl)) rfl
              replace ha := Aside0.mk ha
              have BK123 := Aside0.mk Q_BK123
              have BK140 := Aside0.mk Q_BK140
              have BK147 := Aside0.mk Q_BK147
              have BK148 := Aside0.mk Q_BK148
              have HB := Aside0.mk Q_HB
              refine value_ (w1 := w') (v := .pointer (some ⟨gb123, 0, none⟩)) (wanted_on rfl rfl rfl (e30.trans (by first | rfl | (simp [*]; done)))) rfl ?_ ?_
              ·go_simp
               (try simp only [i64_w])
               try rfl
              refine hK.out _ _ ⟨v158, adz_v158, m9_, (by rw [ha.out]; exact putSel_upk 6 hb_ rfl rfl rfl), Q_BK123, Q_BK140, Q_BK147, Q_BK148, Q_HB, Q_HO159, Q_HA_HO159, fun h0_ => absurd ((hoff 9 (by kernel_rfl)).symm.trans h0_) (by decide)⟩
             refine steps_cons ?_ ?_
             ·rintro b a w' ⟨v158, adz_v158, m9_, ha, Q_BK123, Q_BK140, Q_BK147, Q_BK148, Q_HB, Q_HO159, Q_HA_HO159, Q_X9_⟩ hb_ hon hoff
              refine ⟨_, rfl, fun K hK => ?_⟩
              have e35 : a.tmps[35]? = some (.pointer (some ⟨gb123, 0, none⟩)) := by rw [ha]; exact putSel_on (e := (6, 35, .pointer (some ⟨gb123, 0, none⟩))) 6 rfl rfl (hon 6 (by kernel_rfl)) rfl
              have e30 : a.tmps[30]? = some (.bool true) := by rw [ha]; exact putSel_on (e := (1, 30, .bool true)) 1 rfl rfl (hon 1 (by kernel_rfl)) rfl
              replace ha := Aside0.mk ha
              have BK123 := Aside0.mk Q_BK123
              have BK140 := Aside0.mk Q_BK140
              have BK147 := Aside0.mk Q_BK147
              have BK148 := Aside0.mk Q_BK148
              have HB := Aside0.mk Q_HB
              have hc0_ : w'.cell? ⟨gb123, 0, none⟩ = some (.int .u8 t124) := (kC BK123.out 0).trans rfl
              have hc1_ : w'.cell? ⟨gb123, 1, none⟩ = some (.int .i64 t125) := (kC BK123.out 1).trans rfl
              have hc2_ : w'.cell? ⟨gb123, 2, none⟩ = some (.int .i64 t126) := (kC BK123.out 2).trans rfl
              have hc3_ : w'.cell? ⟨gb123, 3, none⟩ = some (.int .i64 t127) := (kC BK123.out 3).trans rfl
              have hc4_ : w'.cell? ⟨gb123, 4, none⟩ = some (.int .i64 t128) := (kC BK123.out 4).trans rfl
              have hc5_ : w'.cell? ⟨gb123, 5, none⟩ = some (.int .u8 0) := (kC BK123.out 5).trans rfl
              refine value_ (w1 := w') (v := .int .u8 t124) (wanted_on rfl rfl rfl (e30.trans (by first | rfl | (simp [*]; done)))) rfl ?_ ?_
              ·go_simp
               (try simp only [i64_w])
               try rfl
              refine hK.out _ _ ⟨v158, adz_v158, m9_, (by rw [ha.out]; exact putSel_upk 7 hb_ rfl rfl rfl), Q_BK123, Q_BK140, Q_BK147, Q_BK148, Q_HB, Q_HO159, Q_HA_HO159, fun h0_ => absurd ((hoff 9 (by kernel_rfl)).symm.trans h0_) (by decide)⟩
             refine steps_cons ?_ ?_
             ·rintro b a w' ⟨v158, adz_v158, m9_, ha, Q_BK123, Q_BK140, Q_BK147, Q_BK148, Q_HB, Q_HO159, Q_HA_HO159, Q_X9_⟩ hb_ hon hoff
              refine ⟨_, rfl, fun K hK => ?_⟩
              have e36 : a.tmps[36]? = some (.int .u8 t124) := by rw [ha]; exact putSel_on (e := (7, 36, .int .u8 t124)) 7 rfl rfl (hon 7 (by kernel_rfl)) rfl
              have e30 : a.tmps[30]? = some (.bool true) := by rw [ha]; exact putSel_on (e := (1, 30, .bool true)) 1 rfl rfl (hon 1 (by kernel_rfl)) rfl
              replace ha := Aside0.mk ha
              have BK123 := Aside0.mk Q_BK123
              have BK140 := Aside0.mk Q_BK140
              have BK147 := Aside0.mk Q_BK147
              have BK148 := Aside0.mk Q_BK148
              have HB := Aside0.mk Q_HB
              refine value_ (w1 := w') (v := .int .u8 ji4) (wanted_on rfl rfl rfl (e30.trans (by first | rfl | (simp [*]; done)))) rfl ?_ ?_
              ·go_simp
               (try simp only [i64_w])
               try rfl
              refine hK.out _ _ ⟨v158, adz_v158, m9_, (by rw [ha.out]; exact putSel_upk 8 hb_ rfl rfl rfl), Q_BK123, Q_BK140, Q_BK147, Q_BK148, Q_HB, Q_HO159, Q_HA_HO159, fun h0_ => absurd ((hoff 9 (by kernel_rfl)).symm.trans h0_) (by decide)⟩
             refine steps_cons ?_ ?_
             ·rintro b a w' ⟨v158, adz_v158, m9_, ha, Q_BK123, Q_BK140, Q_BK147, Q_BK148, Q_HB, Q_HO159, Q_HA_HO159, Q_X9_⟩ hb_ hon hoff
              refine ⟨_, rfl, fun K hK => ?_⟩
              have e34 : a.tmps[34]? = some (v158) := by rw [ha]; exact putSel_on (e := (5, 34, v158)) 5 rfl rfl (hon 5 (by kernel_rfl)) rfl
              have e37 : a.tmps[37]? = some (.int .u8 ji4) := by rw [ha]; exact putSel_on (e := (8, 37, .int .u8 ji4)) 8 rfl rfl (hon 8 (by kernel_rfl)) rfl
              have e30 : a.tmps[30]? = some (.bool true) := by rw [ha]; exact putSel_on (e := (1, 30, .bool true)) 1 rfl rfl (hon 1 (by kernel_rfl)) rfl
              replace ha := Aside0.mk ha
              have BK123 := Aside0.mk Q_BK123
              have BK140 := Aside0.mk Q_BK140
              have BK147 := Aside0.mk Q_BK147
              have BK148 := Aside0.mk Q_BK148
              have HB := Aside0.mk Q_HB
              have HO159 := Aside0.mk (Q_HO159 (hon 5 (by kernel_rfl)))
              have HA_HO159 := Aside0.mk (Q_HA_HO159 (hon 5 (by kernel_rfl)))
              obtain ⟨c_, hv_⟩ := HA_HO159.out
              rw [hv_] at e34
              refine value_ (w1 := w') (v := .pointer (some (adz_v158.add ((ji4)).toNat))) (wanted_on rfl rfl rfl (e30.trans (by first | rfl | (simp [*]; done)))) rfl ?_ ?_
              ·go_simp
               (try simp only [i64_w])
               try rfl
              refine hK.out _ _ ⟨v158, adz_v158, (.pointer (some (adz_v158.add ((ji4)).toNat))), (by rw [ha.out]; exact putSel_upk 9 hb_ rfl rfl rfl), Q_BK123, Q_BK140, Q_BK147, Q_BK148, Q_HB, Q_HO159, Q_HA_HO159, fun _ => rfl⟩
             refine steps_cons ?_ ?_
             ·rintro b a w' ⟨v158, adz_v158, m9_, ha, Q_BK123, Q_BK140, Q_BK147, Q_BK148, Q_HB, Q_HO159, Q_HA_HO159, Q_X9_⟩ hb_ hon hoff
              refine ⟨_, rfl, fun K hK => ?_⟩
              have e38 : a.tmps[38]? = some (m9_) := by rw [ha]; exact putSel_on (e := (9, 38, m9_)) 9 rfl rfl (hon 9 (by kernel_rfl)) rfl
              rw [Q_X9_ (hon 9 (by kernel_rfl))] at e38
              have e30 : a.tmps[30]? = some (.bool true) := by rw [ha]; exact putSel_on (e := (1, 30, .bool true)) 1 rfl rfl (hon 1 (by kernel_rfl)) rfl
              replace ha := Aside0.mk ha
              have BK123 := Aside0.mk Q_BK123
              have BK140 := Aside0.mk Q_BK140
              have BK147 := Aside0.mk Q_BK147
              have BK148 := Aside0.mk Q_BK148
              have HB := Aside0.mk Q_HB
              have HO159 := Aside0.mk (Q_HO159 (hon 5 (by kernel_rfl)))
              have HA_HO159 := Aside0.mk (Q_HA_HO159 (hon 5 (by kernel_rfl)))
              obtain ⟨c_, hv_⟩ := HA_HO159.out
              have hF_ := HO159.out
              rw [hv_] at hF_
              obtain ⟨ad_, ea_, hx_⟩ := Kd.at_int (Kd.R_reads' hF_).2.2 (ji4) (of_eq_true pi160) (of_eq_true qi160)
              cases ea_
              refine value_ (w1 := w') (v := .int .u8 (rd y157 (ji4))) (wanted_on rfl rfl rfl (e30.trans (by first | rfl | (simp [*]; done)))) rfl ?_ ?_
              ·go_simp
               (try simp only [i64_w])
               try rfl
              refine hK.out _ _ ⟨v158, adz_v158, m9_, (by rw [ha.out]; exact putSel_upk 10 hb_ rfl rfl rfl), Q_BK123, Q_BK140, Q_BK147, Q_BK148, Q_HB, Q_HO159, Q_HA_HO159, Q_X9_⟩
             refine steps_cons ?_ ?_
             ·rintro b a w' ⟨v158, adz_v158, m9_, ha, Q_BK123, Q_BK140, Q_BK147, Q_BK148, Q_HB, Q_HO159, Q_HA_HO159, Q_X9_⟩ hb_ hon hoff
              refine ⟨_, rfl, fun K hK => ?_⟩
              have e33 : a.tmps[33]? = some (.int .u8 t156) := by rw [ha]; exact putSel_on (e := (4, 33, .int .u8 t156)) 4 rfl rfl (hon 4 (by kernel_rfl)) rfl
              have e39 : a.tmps[39]? = some (.int .u8 (rd y157 (ji4))) := by rw [ha]; exact putSel_on (e := (10, 39, .int .u8 (rd y157 (ji4)))) 10 rfl rfl (hon 10 (by kernel_rfl)) rfl
              have e30 : a.tmps[30]? = some (.bool true) := by rw [ha]; exact putSel_on (e := (1, 30, .bool true)) 1 rfl rfl (hon 1 (by kernel_rfl)) rfl
              replace ha := Aside0.mk ha
              have BK123 := Aside0.mk Q_BK123
              have BK140 := Aside0.mk Q_BK140
              have BK147 := Aside0.mk Q_BK147
              have BK148 := Aside0.mk Q_BK148
              have HB := Aside0.mk Q_HB
              have HO159 := Aside0.mk (Q_HO159 (hon 5 (by kernel_rfl)))
              have HA_HO159 := Aside0.mk (Q_HA_HO159 (hon 5 (by kernel_rfl)))
              refine value_ (w1 := w') (v := .bool (t156 == (rd y157 (ji4)))) (wanted_on rfl rfl rfl (e30.trans (by first | rfl | (simp [*]; done)))) rfl ?_ ?_
              ·go_simp
               (try simp only [i64_w])
               try rfl
              refine hK.out _ _ ⟨v158, adz_v158, m9_, (by rw [ha.out]; exact putSel_upk 11 hb_ rfl rfl rfl), Q_BK123, Q_BK140, Q_BK147, Q_BK148, Q_HB, Q_HO159, Q_HA_HO159, Q_X9_⟩
             refine steps_cons ?_ ?_
             ·rintro b a w' ⟨v158, adz_v158, m9_, ha, Q_BK123, Q_BK140, Q_BK147, Q_BK148, Q_HB, Q_HO159, Q_HA_HO159, Q_X9_⟩ hb_ hon hoff
              refine ⟨_, rfl, fun K hK => ?_⟩
              have e30 : a.tmps[30]? = some (.bool true) := by rw [ha]; exact putSel_on (e := (1, 30, .bool true)) 1 rfl rfl (hon 1 (by kernel_rfl)) rfl
              have e40 : a.tmps[40]? = some (.bool (t156 == (rd y157 (ji4)))) := by rw [ha]; exact putSel_on (e := (11, 40, .bool (t156 == (rd y157 (ji4))))) 11 rfl rfl (hon 11 (by kernel_rfl)) rfl
              replace ha := Aside0.mk ha
              have BK123 := Aside0.mk Q_BK123
              have BK140 := Aside0.mk Q_BK140
              have BK147 := Aside0.mk Q_BK147
              have BK148 := Aside0.mk Q_BK148
              have HB := Aside0.mk Q_HB
              have HO159 := Aside0.mk (Q_HO159 (hon 5 (by kernel_rfl)))
              have HA_HO159 := Aside0.mk (Q_HA_HO159 (hon 5 (by kernel_rfl)))
              refine value_ (w1 := w') (v := .bool (t156 == (rd y157 (ji4)))) (by rfl) rfl ?_ ?_
              ·go_simp
               (try simp only [i64_w])
               try rfl
              refine hK.out _ _ ⟨v158, adz_v158, m9_, (by rw [ha.out]; exact putSel_upk 12 hb_ rfl rfl rfl), Q_BK123, Q_BK140, Q_BK147, Q_BK148, Q_HB, Q_HO159, Q_HA_HO159, Q_X9_⟩
             refine steps_cons ?_ ?_
             ·rintro b a w' ⟨v158, adz_v158, m9_, ha, Q_BK123, Q_BK140, Q_BK147, Q_BK148, Q_HB, Q_HO159, Q_HA_HO159, Q_X9_⟩ hb_ hon hoff
              refine ⟨_, rfl, fun K hK => ?_⟩
              have e41 : a.tmps[41]? = some (.bool (t156 == (rd y157 (ji4)))) := by rw [ha]; exact putSel_on (e := (12, 41, .bool (t156 == (rd y157 (ji4))))) 12 rfl rfl (hon 12 (by kernel_rfl)) rfl
              replace ha := Aside0.mk ha
              have BK123 := Aside0.mk Q_BK123
              have BK140 := Aside0.mk Q_BK140
              have BK147 := Aside0.mk Q_BK147
              have BK148 := Aside0.mk Q_BK148
              have HB := Aside0.mk Q_HB
              have HO159 := Aside0.mk (Q_HO159 (hon 5 (by kernel_rfl)))
              have HA_HO159 := Aside0.mk (Q_HA_HO159 (hon 5 (by kernel_rfl)))
              refine value_ (w1 := w') (v := .bool (t156 == (rd y157 (ji4)))) (by rfl) rfl ?_ ?_
              ·go_simp
               (try simp only [i64_w])
               try rfl
              refine hK.out _ _ ⟨v158, adz_v158, m9_, (by rw [ha.out]; exact putSel_upk 13 hb_ rfl rfl rfl), Q_BK123, Q_BK140, Q_BK147, Q_BK148, Q_HB, Q_HO159, Q_HA_HO159, Q_X9_⟩
             refine steps_cons ?_ ?_
             ·rintro b a w' ⟨v158, adz_v158, m9_, ha, Q_BK123, Q_BK140, Q_BK147, Q_BK148, Q_HB, Q_HO159, Q_HA_HO159, Q_X9_⟩ hb_ hon hoff
              refine ⟨_, rfl, fun K hK => ?_⟩
              have e6 : a.tmps[6]? = some (.pointer (some ⟨gb140, 0, none⟩)) := by rw [ha]; exact (putSel_off rfl).trans rfl
              have e42 : a.tmps[42]? = some (.bool (t156 == (rd y157 (ji4)))) := by rw [ha]; exact putSel_on (e := (13, 42, .bool (t156 == (rd y157 (ji4))))) 13 rfl rfl (hon 13 (by kernel_rfl)) rfl
              replace ha := Aside0.mk ha
              have BK123 := Aside0.mk Q_BK123
              have BK140 := Aside0.mk Q_BK140
              have BK147 := Aside0.mk Q_BK147
              have BK148 := Aside0.mk Q_BK148
              have HB := Aside0.mk Q_HB
              have HO159 := Aside0.mk (Q_HO159 (hon 5 (by kernel_rfl)))
              have HA_HO159 := Aside0.mk (Q_HA_HO159 (hon 5 (by kernel_rfl)))
              have hc0_ : w'.cell? ⟨gb140, 0, none⟩ = some (.int .u8 t134) := (kC BK140.out 0).trans rfl
              have hc1_ : w'.cell? ⟨gb140, 1, none⟩ = some (.int .i64 t135) := (kC BK140.out 1).trans rfl
              have hc2_ : w'.cell? ⟨gb140, 2, none⟩ = some (.int .i64 t136) := (kC BK140.out 2).trans rfl
              have hc3_ : w'.cell? ⟨gb140, 3, none⟩ = some (.int .i64 t137) := (kC BK140.out 3).trans rfl
              have hc4_ : w'.cell? ⟨gb140, 4, none⟩ = some (.int .i64 t138) := (kC BK140.out 4).trans rfl
              have hc5_ : w'.cell? ⟨gb140, 5, none⟩ = some (.int .u8 t139) := (kC BK140.out 5).trans rfl
              refine value_ (w1 := w') (v := .agg #[.int .u8 t134, .int .i64 t135, .int .i64 t136, .int .i64 t137, .int .i64 t138, .int .u8 t139]) (wanted_on rfl rfl rfl (e42.trans (by first | rfl | (simp [*]; done)))) rfl ?_ ?_
              ·go_simp
               (try simp only [i64_w])
               try rfl
              refine hK.out _ _ ⟨v158, adz_v158, m9_, (by rw [ha.out]; exact putSel_upk 14 hb_ rfl rfl rfl), Q_BK123, Q_BK140, Q_BK147, Q_BK148, Q_HB, Q_HO159, Q_HA_HO159, Q_X9_⟩
             refine steps_cons ?_ ?_
             ·rintro b a w' ⟨v158, adz_v158, m9_, ha, Q_BK123, Q_BK140, Q_BK147, Q_BK148, Q_HB, Q_HO159, Q_HA_HO159, Q_X9_⟩ hb_ hon hoff
              refine ⟨_, rfl, fun K hK => ?_⟩
              have e8 : a.tmps[8]? = some (.pointer (some ⟨gb148, 0, none⟩)) := by rw [ha]; exact (putSel_off rfl).trans rfl
              have e42 : a.tmps[42]? = some (.bool (t156 == (rd y157 (ji4)))) := by rw [ha]; exact putSel_on (e := (13, 42, .bool (t156 == (rd y157 (ji4))))) 13 rfl rfl (hon 13 (by kernel_rfl)) rfl
              replace ha := Aside0.mk ha
              have BK123 := Aside0.mk Q_BK123
              have BK140 := Aside0.mk Q_BK140
              have BK147 := Aside0.mk Q_BK147
              have BK148 := Aside0.mk Q_BK148
              have HB := Aside0.mk Q_HB
              have HO159 := Aside0.mk (Q_HO159 (hon 5 (by kernel_rfl)))
              have HA_HO159 := Aside0.mk (Q_HA_HO159 (hon 5 (by kernel_rfl)))
              have hc0_ : w'.cell? ⟨gb148, 0, none⟩ = some (.int .u8 t124) := (kC BK148.out 0).trans rfl
              have hc1_ : w'.cell? ⟨gb148, 1, none⟩ = some (.int .i64 t125) := (kC BK148.out 1).trans rfl
              have hc2_ : w'.cell? ⟨gb148, 2, none⟩ = some (.int .i64 t126) := (kC BK148.out 2).trans rfl
              have hc3_ : w'.cell? ⟨gb148, 3, none⟩ = some (.int .i64 t127) := (kC BK148.out 3).trans rfl
              have hc4_ : w'.cell? ⟨gb148, 4, none⟩ = some (.int .i64 t128) := (kC BK148.out 4).trans rfl
              have hc5_ : w'.cell? ⟨gb148, 5, none⟩ = some (.int .u8 a1) := (kC BK148.out 5).trans rfl
              refine value_ (w1 := w') (v := .agg #[.int .u8 t124, .int .i64 t125, .int .i64 t126, .int .i64 t127, .int .i64 t128, .int .u8 a1]) (wanted_on rfl rfl rfl (e42.trans (by first | rfl | (simp [*]; done)))) rfl ?_ ?_
              ·go_simp
               (try simp only [i64_w])
               try rfl
              refine hK.out _ _ ⟨v158, adz_v158, m9_, (by rw [ha.out]; exact putSel_upk 15 hb_ rfl rfl rfl), Q_BK123, Q_BK140, Q_BK147, Q_BK148, Q_HB, Q_HO159, Q_HA_HO159, Q_X9_⟩
             refine steps_cons ?_ ?_
             ·rintro b a w' ⟨v158, adz_v158, m9_, ha, Q_BK123, Q_BK140, Q_BK147, Q_BK148, Q_HB, Q_HO159, Q_HA_HO159, Q_X9_⟩ hb_ hon hoff
              refine ⟨_, rfl, fun K hK => ?_⟩
              have e43 : a.tmps[43]? = some (.agg #[.int .u8 t134, .int .i64 t135, .int .i64 t136, .int .i64 t137, .int .i64 t138, .int .u8 t139]) := by rw [ha]; exact putSel_on (e := (14, 43, .agg #[.int .u8 t134, .int .i64 t135, .int .i64 t136, .int .i64 t137, .int .i64 t138, .int .u8 t139])) 14 rfl rfl (hon 14 (by kernel_rfl)) rfl
              have e44 : a.tmps[44]? = some (.agg #[.int .u8 t124, .int .i64 t125, .int .i64 t126, .int .i64 t127, .int .i64 t128, .int .u8 a1]) := by rw [ha]; exact putSel_on (e := (15, 44, .agg #[.int .u8 t124, .int .i64 t125, .int .i64 t126, .int .i64 t127, .int .i64 t128, .int .u8 a1])) 15 rfl rfl (hon 15 (by kernel_rfl)) rfl
              have e42 : a.tmps[42]? = some (.bool (t156 == (rd y157 (ji4)))) := by rw [ha]; exact putSel_on (e := (13, 42, .bool (t156 == (rd y157 (ji4))))) 13 rfl rfl (hon 13 (by kernel_rfl)) rfl
              replace ha := Aside0.mk ha
              have BK123 := Aside0.mk Q_BK123
              have BK140 := Aside0.mk Q_BK140
              have BK147 := Aside0.mk Q_BK147
              have BK148 := Aside0.mk Q_BK148
              have HB := Aside0.mk Q_HB
              have HO159 := Aside0.mk (Q_HO159 (hon 5 (by kernel_rfl)))
              have HA_HO159 := Aside0.mk (Q_HA_HO159 (hon 5 (by kernel_rfl)))
              refine value_ (w1 := w') (v := .bool (t134 == t124 && (t135 == t125 && (t136 == t126 && (t137 == t127 && (t138 == t128 && (t139 == a1))))))) (wanted_on rfl rfl rfl (e42.trans (by first | rfl | (simp [*]; done)))) rfl ?_ ?_
              ·go_simp
               (try simp only [i64_w])
               try rfl
              refine hK.out _ _ ⟨v158, adz_v158, m9_, (by rw [ha.out]; exact putSel_upk 16 hb_ rfl rfl rfl), Q_BK123, Q_BK140, Q_BK147, Q_BK148, Q_HB, Q_HO159, Q_HA_HO159, Q_X9_⟩
             refine steps_cons ?_ ?_
             ·rintro b a w' ⟨v158, adz_v158, m9_, ha, Q_BK123, Q_BK140, Q_BK147, Q_BK148, Q_HB, Q_HO159, Q_HA_HO159, Q_X9_⟩ hb_ hon hoff
              refine ⟨_, rfl, fun K hK => ?_⟩
              have e42 : a.tmps[42]? = some (.bool (t156 == (rd y157 (ji4)))) := by rw [ha]; exact putSel_on (e := (13, 42, .bool (t156 == (rd y157 (ji4))))) 13 rfl rfl (hon 13 (by kernel_rfl)) rfl
              have e45 : a.tmps[45]? = some (.bool (t134 == t124 && (t135 == t125 && (t136 == t126 && (t137 == t127 && (t138 == t128 && (t139 == a1))))))) := by rw [ha]; exact putSel_on (e := (16, 45, .bool (t134 == t124 && (t135 == t125 && (t136 == t126 && (t137 == t127 && (t138 == t128 && (t139 == a1)))))))) 16 rfl rfl (hon 16 (by kernel_rfl)) rfl
              replace ha := Aside0.mk ha
              have BK123 := Aside0.mk Q_BK123
              have BK140 := Aside0.mk Q_BK140
              have BK147 := Aside0.mk Q_BK147
              have BK148 := Aside0.mk Q_BK148
              have HB := Aside0.mk Q_HB
              have HO159 := Aside0.mk (Q_HO159 (hon 5 (by kernel_rfl)))
              have HA_HO159 := Aside0.mk (Q_HA_HO159 (hon 5 (by kernel_rfl)))
              refine value_ (w1 := w') (v := .bool (t134 == t124 && (t135 == t125 && (t136 == t126 && (t137 == t127 && (t138 == t128 && (t139 == a1))))))) (by rfl) rfl ?_ ?_
              ·go_simp
               (try simp only [i64_w])
               try rfl
              refine hK.out _ _ ⟨v158, adz_v158, m9_, (by rw [ha.out]; exact putSel_upk 17 hb_ rfl rfl rfl), Q_BK123, Q_BK140, Q_BK147, Q_BK148, Q_HB, Q_HO159, Q_HA_HO159, Q_X9_⟩
             refine steps_cons ?_ ?_
             ·rintro b a w' ⟨v158, adz_v158, m9_, ha, Q_BK123, Q_BK140, Q_BK147, Q_BK148, Q_HB, Q_HO159, Q_HA_HO159, Q_X9_⟩ hb_ hon hoff
              refine ⟨_, rfl, fun K hK => ?_⟩
              have e46 : a.tmps[46]? = some (.bool (t134 == t124 && (t135 == t125 && (t136 == t126 && (t137 == t127 && (t138 == t128 && (t139 == a1))))))) := by rw [ha]; exact putSel_on (e := (17, 46, .bool (t134 == t124 && (t135 == t125 && (t136 == t126 && (t137 == t127 && (t138 == t128 && (t139 == a1)))))))) 17 rfl rfl (hon 17 (by kernel_rfl)) rfl
              replace ha := Aside0.mk ha
              have BK123 := Aside0.mk Q_BK123
              have BK140 := Aside0.mk Q_BK140
              have BK147 := Aside0.mk Q_BK147
              have BK148 := Aside0.mk Q_BK148
              have HB := Aside0.mk Q_HB
              have HO159 := Aside0.mk (Q_HO159 (hon 5 (by kernel_rfl)))
              have HA_HO159 := Aside0.mk (Q_HA_HO159 (hon 5 (by kernel_rfl)))
              refine value_ (w1 := w') (v := .bool (t134 == t124 && (t135 == t125 && (t136 == t126 && (t137 == t127 && (t138 == t128 && (t139 == a1))))))) (by rfl) rfl ?_ ?_
              ·go_simp
               (try simp only [i64_w])
               try rfl
              refine hK.out _ _ ⟨v158, adz_v158, m9_, (by rw [ha.out]; exact putSel_upk 18 hb_ rfl rfl rfl), Q_BK123, Q_BK140, Q_BK147, Q_BK148, Q_HB, Q_HO159, Q_HA_HO159, Q_X9_⟩
             refine steps_cons ?_ ?_
             ·rintro b a w' ⟨v158, adz_v158, m9_, ha, Q_BK123, Q_BK140, Q_BK147, Q_BK148, Q_HB, Q_HO159, Q_HA_HO159, Q_X9_⟩ hb_ hon hoff
              refine ⟨_, rfl, fun K hK => ?_⟩
              have e7 : a.tmps[7]? = some (.pointer (some ⟨gb147, 0, none⟩)) := by rw [ha]; exact (putSel_off rfl).trans rfl
              have e47 : a.tmps[47]? = some (.bool (t134 == t124 && (t135 == t125 && (t136 == t126 && (t137 == t127 && (t138 == t128 && (t139 == a1))))))) := by rw [ha]; exact putSel_on (e := (18, 47, .bool (t134 == t124 && (t135 == t125 && (t136 == t126 && (t137 == t127 && (t138 == t128 && (t139 == a1)))))))) 18 rfl rfl (hon 18 (by kernel_rfl)) rfl
              replace ha := Aside0.mk ha
              have BK123 := Aside0.mk Q_BK123
              have BK140 := Aside0.mk Q_BK140
              have BK147 := Aside0.mk Q_BK147
              have BK148 := Aside0.mk Q_BK148
              have HB := Aside0.mk Q_HB
              have HO159 := Aside0.mk (Q_HO159 (hon 5 (by kernel_rfl)))
              have HA_HO159 := Aside0.mk (Q_HA_HO159 (hon 5 (by kernel_rfl)))
              have hc0_ : w'.cell? ⟨gb147, 0, none⟩ = some (.int .u8 t141) := (kC BK147.out 0).trans rfl
              have hc1_ : w'.cell? ⟨gb147, 1, none⟩ = some (.int .i64 t142) := (kC BK147.out 1).trans rfl
              have hc2_ : w'.cell? ⟨gb147, 2, none⟩ = some (.int .i64 t143) := (kC BK147.out 2).trans rfl
              have hc3_ : w'.cell? ⟨gb147, 3, none⟩ = some (.int .i64 t144) := (kC BK147.out 3).trans rfl
              have hc4_ : w'.cell? ⟨gb147, 4, none⟩ = some (.int .i64 t145) := (kC BK147.out 4).trans rfl
              have hc5_ : w'.cell? ⟨gb147, 5, none⟩ = some (.int .u8 t146) := (kC BK147.out 5).trans rfl
              refine value_ (w1 := w') (v := .agg #[.int .u8 t141, .int .i64 t142, .int .i64 t143, .int .i64 t144, .int .i64 t145, .int .u8 t146]) (wanted_on rfl rfl rfl (e47.trans (by first | rfl | (simp [*]; done)))) rfl ?_ ?_
              ·go_simp
               (try simp only [i64_w])
               try rfl
              refine hK.out _ _ ⟨v158, adz_v158, m9_, (by rw [ha.out]; exact putSel_upk 19 hb_ rfl rfl rfl), Q_BK123, Q_BK140, Q_BK147, Q_BK148, Q_HB, Q_HO159, Q_HA_HO159, Q_X9_⟩
             refine steps_cons ?_ ?_
             ·rintro b a w' ⟨v158, adz_v158, m9_, ha, Q_BK123, Q_BK140, Q_BK147, Q_BK148, Q_HB, Q_HO159, Q_HA_HO159, Q_X9_⟩ hb_ hon hoff
              refine ⟨_, rfl, fun K hK => ?_⟩
              have e2 : a.tmps[2]? = some (.pointer (some ⟨gb123, 0, none⟩)) := by rw [ha]; exact (putSel_off rfl).trans rfl
              have e47 : a.tmps[47]? = some (.bool (t134 == t124 && (t135 == t125 && (t136 == t126 && (t137 == t127 && (t138 == t128 && (t139 == a1))))))) := by rw [ha]; exact putSel_on (e := (18, 47, .bool (t134 == t124 && (t135 == t125 && (t136 == t126 && (t137 == t127 && (t138 == t128 && (t139 == a1)))))))) 18 rfl rfl (hon 18 (by kernel_rfl)) rfl
              replace ha := Aside0.mk ha
              have BK123 := Aside0.mk Q_BK123
              have BK140 := Aside0.mk Q_BK140
              have BK147 := Aside0.mk Q_BK147
              have BK148 := Aside0.mk Q_BK148
              have HB := Aside0.mk Q_HB
              have HO159 := Aside0.mk (Q_HO159 (hon 5 (by kernel_rfl)))
              have HA_HO159 := Aside0.mk (Q_HA_HO159 (hon 5 (by kernel_rfl)))
              have hc0_ : w'.cell? ⟨gb123, 0, none⟩ = some (.int .u8 t124) := (kC BK123.out 0).trans rfl
              have hc1_ : w'.cell? ⟨gb123, 1, none⟩ = some (.int .i64 t125) := (kC BK123.out 1).trans rfl
              have hc2_ : w'.cell? ⟨gb123, 2, none⟩ = some (.int .i64 t126) := (kC BK123.out 2).trans rfl
              have hc3_ : w'.cell? ⟨gb123, 3, none⟩ = some (.int .i64 t127) := (kC BK123.out 3).trans rfl
              have hc4_ : w'.cell? ⟨gb123, 4, none⟩ = some (.int .i64 t128) := (kC BK123.out 4).trans rfl
              have hc5_ : w'.cell? ⟨gb123, 5, none⟩ = some (.int .u8 0) := (kC BK123.out 5).trans rfl
              refine value_ (w1 := w') (v := .agg #[.int .u8 t124, .int .i64 t125, .int .i64 t126, .int .i64 t127, .int .i64 t128, .int .u8 0]) (wanted_on rfl rfl rfl (e47.trans (by first | rfl | (simp [*]; done)))) rfl ?_ ?_
              ·go_simp
               (try simp only [i64_w])
               try rfl
              refine hK.out _ _ ⟨v158, adz_v158, m9_, (by rw [ha.out]; exact putSel_upk 20 hb_ rfl rfl rfl), Q_BK123, Q_BK140, Q_BK147, Q_BK148, Q_HB, Q_HO159, Q_HA_HO159, Q_X9_⟩
             refine steps_cons ?_ ?_
             ·rintro b a w' ⟨v158, adz_v158, m9_, ha, Q_BK123, Q_BK140, Q_BK147, Q_BK148, Q_HB, Q_HO159, Q_HA_HO159, Q_X9_⟩ hb_ hon hoff
              refine ⟨_, rfl, fun K hK => ?_⟩
              have e48 : a.tmps[48]? = some (.agg #[.int .u8 t141, .int .i64 t142, .int .i64 t143, .int .i64 t144, .int .i64 t145, .int .u8 t146]) := by rw [ha]; exact putSel_on (e := (19, 48, .agg #[.int .u8 t141, .int .i64 t142, .int .i64 t143, .int .i64 t144, .int .i64 t145, .int .u8 t146])) 19 rfl rfl (hon 19 (by kernel_rfl)) rfl
              have e49 : a.tmps[49]? = some (.agg #[.int .u8 t124, .int .i64 t125, .int .i64 t126, .int .i64 t127, .int .i64 t128, .int .u8 0]) := by rw [ha]; exact putSel_on (e := (20, 49, .agg #[.int .u8 t124, .int .i64 t125, .int .i64 t126, .int .i64 t127, .int .i64 t128, .int .u8 0])) 20 rfl rfl (hon 20 (by kernel_rfl)) rfl
              have e47 : a.tmps[47]? = some (.bool (t134 == t124 && (t135 == t125 && (t136 == t126 && (t137 == t127 && (t138 == t128 && (t139 == a1))))))) := by rw [ha]; exact putSel_on (e := (18, 47, .bool (t134 == t124 && (t135 == t125 && (t136 == t126 && (t137 == t127 && (t138 == t128 && (t139 == a1)))))))) 18 rfl rfl (hon 18 (by kernel_rfl)) rfl
              replace ha := Aside0.mk ha
              have BK123 := Aside0.mk Q_BK123
              have BK140 := Aside0.mk Q_BK140
              have BK147 := Aside0.mk Q_BK147
              have BK148 := Aside0.mk Q_BK148
              have HB := Aside0.mk Q_HB
              have HO159 := Aside0.mk (Q_HO159 (hon 5 (by kernel_rfl)))
              have HA_HO159 := Aside0.mk (Q_HA_HO159 (hon 5 (by kernel_rfl)))
              refine value_ (w1 := w') (v := .bool (t141 == t124 && (t142 == t125 && (t143 == t126 && (t144 == t127 && (t145 == t128 && (t146 == 0))))))) (wanted_on rfl rfl rfl (e47.trans (by first | rfl | (simp [*]; done)))) rfl ?_ ?_
              ·go_simp
               (try simp only [i64_w])
               try rfl
              refine hK.out _ _ ⟨v158, adz_v158, m9_, (by rw [ha.out]; exact putSel_upk 21 hb_ rfl rfl rfl), Q_BK123, Q_BK140, Q_BK147, Q_BK148, Q_HB, Q_HO159, Q_HA_HO159, Q_X9_⟩
             refine steps_cons ?_ ?_
             ·rintro b a w' ⟨v158, adz_v158, m9_, ha, Q_BK123, Q_BK140, Q_BK147, Q_BK148, Q_HB, Q_HO159, Q_HA_HO159, Q_X9_⟩ hb_ hon hoff
              refine ⟨_, rfl, fun K hK => ?_⟩
              have e47 : a.tmps[47]? = some (.bool (t134 == t124 && (t135 == t125 && (t136 == t126 && (t137 == t127 && (t138 == t128 && (t139 == a1))))))) := by rw [ha]; exact putSel_on (e := (18, 47, .bool (t134 == t124 && (t135 == t125 && (t136 == t126 && (t137 == t127 && (t138 == t128 && (t139 == a1)))))))) 18 rfl rfl (hon 18 (by kernel_rfl)) rfl
              have e50 : a.tmps[50]? = some (.bool (t141 == t124 && (t142 == t125 && (t143 == t126 && (t144 == t127 && (t145 == t128 && (t146 == 0))))))) := by rw [ha]; exact putSel_on (e := (21, 50, .bool (t141 == t124 && (t142 == t125 && (t143 == t126 && (t144 == t127 && (t145 == t128 && (t146 == 0)))))))) 21 rfl rfl (hon 21 (by kernel_rfl)) rfl
              replace ha := Aside0.mk ha
              have BK123 := Aside0.mk Q_BK123
              have BK140 := Aside0.mk Q_BK140
              have BK147 := Aside0.mk Q_BK147
              have BK148 := Aside0.mk Q_BK148
              have HB := Aside0.mk Q_HB
              have HO159 := Aside0.mk (Q_HO159 (hon 5 (by kernel_rfl)))
              have HA_HO159 := Aside0.mk (Q_HA_HO159 (hon 5 (by kernel_rfl)))
              refine value_ (w1 := w') (v := .bool (t141 == t124 && (t142 == t125 && (t143 == t126 && (t144 == t127 && (t145 == t128 && (t146 == 0))))))) (by rfl) rfl ?_ ?_
              ·go_simp
               (try simp only [i64_w])
               try rfl
              refine hK.out _ _ ⟨v158, adz_v158, m9_, (by rw [ha.out]; exact putSel_upk 22 hb_ rfl rfl rfl), Q_BK123, Q_BK140, Q_BK147, Q_BK148, Q_HB, Q_HO159, Q_HA_HO159, Q_X9_⟩
             refine steps_cons ?_ ?_
             ·rintro b a w' ⟨v158, adz_v158, m9_, ha, Q_BK123, Q_BK140, Q_BK147, Q_BK148, Q_HB, Q_HO159, Q_HA_HO159, Q_X9_⟩ hb_ hon hoff
              refine ⟨_, rfl, fun K hK => ?_⟩
              have e51 : a.tmps[51]? = some (.bool (t141 == t124 && (t142 == t125 && (t143 == t126 && (t144 == t127 && (t145 == t128 && (t146 == 0))))))) := by rw [ha]; exact putSel_on (e := (22, 51, .bool (t141 == t124 && (t142 == t125 && (t143 == t126 && (t144 == t127 && (t145 == t128 && (t146 == 0)))))))) 22 rfl rfl (hon 22 (by kernel_rfl)) rfl
              replace ha := Aside0.mk ha
              have BK123 := Aside0.mk Q_BK123
              have BK140 := Aside0.mk Q_BK140
              have BK147 := Aside0.mk Q_BK147
              have BK148 := Aside0.mk Q_BK148
              have HB := Aside0.mk Q_HB
              have HO159 := Aside0.mk (Q_HO159 (hon 5 (by kernel_rfl)))
              have HA_HO159 := Aside0.mk (Q_HA_HO159 (hon 5 (by kernel_rfl)))
              refine value_ (w1 := w') (v := .bool (t141 == t124 && (t142 == t125 && (t143 == t126 && (t144 == t127 && (t145 == t128 && (t146 == 0))))))) (by rfl) rfl ?_ ?_
              ·go_simp
               (try simp only [i64_w])
               try rfl
              refine hK.out _ _ ⟨v158, adz_v158, m9_, (by rw [ha.out]; exact putSel_upk 23 hb_ rfl rfl rfl), Q_BK123, Q_BK140, Q_BK147, Q_BK148, Q_HB, Q_HO159, Q_HA_HO159, Q_X9_⟩
             refine steps_cons ?_ ?_
             ·rintro b a w' ⟨v158, adz_v158, m9_, ha, Q_BK123, Q_BK140, Q_BK147, Q_BK148, Q_HB, Q_HO159, Q_HA_HO159, Q_X9_⟩ hb_ hon hoff
              refine ⟨_, rfl, fun K hK => ?_⟩
              have e5 : a.tmps[5]? = some (.int .u8 x5_6) := by rw [ha]; exact (putSel_off rfl).trans rfl
              have e52 : a.tmps[52]? = some (.bool (t141 == t124 && (t142 == t125 && (t143 == t126 && (t144 == t127 && (t145 == t128 && (t146 == 0))))))) := by rw [ha]; exact putSel_on (e := (23, 52, .bool (t141 == t124 && (t142 == t125 && (t143 == t126 && (t144 == t127 && (t145 == t128 && (t146 == 0)))))))) 23 rfl rfl (hon 23 (by kernel_rfl)) rfl
              replace ha := Aside0.mk ha
              have BK123 := Aside0.mk Q_BK123
              have BK140 := Aside0.mk Q_BK140
              have BK147 := Aside0.mk Q_BK147
              have BK148 := Aside0.mk Q_BK148
              have HB := Aside0.mk Q_HB
              have HO159 := Aside0.mk (Q_HO159 (hon 5 (by kernel_rfl)))
              have HA_HO159 := Aside0.mk (Q_HA_HO159 (hon 5 (by kernel_rfl)))
              refine value_ (w1 := w') (v := .int .u8 x5_6) (wanted_on rfl rfl rfl (e52.trans (by first | rfl | (simp [*]; done)))) rfl ?_ ?_
              ·go_simp
               (try simp only [i64_w])
               try rfl
              refine hK.out _ _ ⟨v158, adz_v158, m9_, (by rw [ha.out]; exact putSel_upk 24 hb_ rfl rfl rfl), Q_BK123, Q_BK140, Q_BK147, Q_BK148, Q_HB, Q_HO159, Q_HA_HO159, Q_X9_⟩
             refine steps_cons ?_ ?_
             ·rintro b a w' ⟨v158, adz_v158, m9_, ha, Q_BK123, Q_BK140, Q_BK147, Q_BK148, Q_HB, Q_HO159, Q_HA_HO159, Q_X9_⟩ hb_ hon hoff
              refine ⟨_, rfl, fun K hK => ?_⟩
              have e53 : a.tmps[53]? = some (.int .u8 x5_6) := by rw [ha]; exact putSel_on (e := (24, 53, .int .u8 x5_6)) 24 rfl rfl (hon 24 (by kernel_rfl)) rfl
              have e52 : a.tmps[52]? = some (.bool (t141 == t124 && (t142 == t125 && (t143 == t126 && (t144 == t127 && (t145 == t128 && (t146 == 0))))))) := by rw [ha]; exact putSel_on (e := (23, 52, .bool (t141 == t124 && (t142 == t125 && (t143 == t126 && (t144 == t127 && (t145 == t128 && (t146 == 0)))))))) 23 rfl rfl (hon 23 (by kernel_rfl)) rfl
              replace ha := Aside0.mk ha
              have BK123 := Aside0.mk Q_BK123
              have BK140 := Aside0.mk Q_BK140
              have BK147 := Aside0.mk Q_BK147
              have BK148 := Aside0.mk Q_BK148
              have HB := Aside0.mk Q_HB
              have HO159 := Aside0.mk (Q_HO159 (hon 5 (by kernel_rfl)))
              have HA_HO159 := Aside0.mk (Q_HA_HO159 (hon 5 (by kernel_rfl)))
              refine value_ (w1 := w') (v := .bool (decide (x5_6 < 3))) (wanted_on rfl rfl rfl (e52.trans (by first | rfl | (simp [*]; done)))) rfl ?_ ?_
              ·go_simp
               (try simp only [i64_w])
               try rfl
              refine hK.out _ _ ⟨v158, adz_v158, m9_, (by rw [ha.out]; exact putSel_upk 25 hb_ rfl rfl rfl), Q_BK123, Q_BK140, Q_BK147, Q_BK148, Q_HB, Q_HO159, Q_HA_HO159, Q_X9_⟩
             refine steps_cons ?_ ?_
             ·rintro b a w' ⟨v158, adz_v158, m9_, ha, Q_BK123, Q_BK140, Q_BK147, Q_BK148, Q_HB, Q_HO159, Q_HA_HO159, Q_X9_⟩ hb_ hon hoff
              refine ⟨_, rfl, fun K hK => ?_⟩
              have e54 : a.tmps[54]? = some (.bool (decide (x5_6 < 3))) := by rw [ha]; exact putSel_on (e := (25, 54, .bool (decide (x5_6 < 3)))) 25 rfl rfl (hon 25 (by kernel_rfl)) rfl
              have e52 : a.tmps[52]? = some (.bool (t141 == t124 && (t142 == t125 && (t143 == t126 && (t144 == t127 && (t145 == t128 && (t146 == 0))))))) := by rw [ha]; exact putSel_on (e := (23, 52, .bool (t141 == t124 && (t142 == t125 && (t143 == t126 && (t144 == t127 && (t145 == t128 && (t146 == 0)))))))) 23 rfl rfl (hon 23 (by kernel_rfl)) rfl
              replace ha := Aside0.mk ha
              have BK123 := Aside0.mk Q_BK123
              have BK140 := Aside0.mk Q_BK140
              have BK147 := Aside0.mk Q_BK147
              have BK148 := Aside0.mk Q_BK148
              have HB := Aside0.mk Q_HB
              have HO159 := Aside0.mk (Q_HO159 (hon 5 (by kernel_rfl)))
              have HA_HO159 := Aside0.mk (Q_HA_HO159 (hon 5 (by kernel_rfl)))
              refine value_ (w1 := w') (v := .bool (decide (x5_6 < 3))) (wanted_on rfl rfl rfl (e52.trans (by first | rfl | (simp [*]; done)))) rfl ?_ ?_
              ·go_simp
               (try simp only [i64_w])
               try rfl
              refine hK.out _ _ ⟨v158, adz_v158, m9_, (by rw [ha.out]; exact putSel_upk 26 hb_ rfl rfl rfl), Q_BK123, Q_BK140, Q_BK147, Q_BK148, Q_HB, Q_HO159, Q_HA_HO159, Q_X9_⟩
             refine steps_cons ?_ ?_
             ·rintro b a w' ⟨v158, adz_v158, m9_, ha, Q_BK123, Q_BK140, Q_BK147, Q_BK148, Q_HB, Q_HO159, Q_HA_HO159, Q_X9_⟩ hb_ hon hoff
              refine ⟨_, rfl, fun K hK => ?_⟩
              have e55 : a.tmps[55]? = some (.bool (decide (x5_6 < 3))) := by rw [ha]; exact putSel_on (e := (26, 55, .bool (decide (x5_6 < 3)))) 26 rfl rfl (hon 26 (by kernel_rfl)) rfl
              replace ha := Aside0.mk ha
              have BK123 := Aside0.mk Q_BK123
              have BK140 := Aside0.mk Q_BK140
              have BK147 := Aside0.mk Q_BK147
              have BK148 := Aside0.mk Q_BK148
              have HB := Aside0.mk Q_HB
              have HO159 := Aside0.mk (Q_HO159 (hon 5 (by kernel_rfl)))
              have HA_HO159 := Aside0.mk (Q_HA_HO159 (hon 5 (by kernel_rfl)))
              refine off_ (wanted_off rfl rfl rfl (e55.trans (by first | rfl | (simp [*]; done)))) ?_
              refine hK.out _ _ ⟨v158, adz_v158, m9_, (by rw [ha.out]; exact putSel_upk 27 hb_ rfl rfl rfl), Q_BK123, Q_BK140, Q_BK147, Q_BK148, Q_HB, Q_HO159, Q_HA_HO159, Q_X9_⟩
             refine steps_cons ?_ ?_
             ·rintro b a w' ⟨v158, adz_v158, m9_, ha, Q_BK123, Q_BK140, Q_BK147, Q_BK148, Q_HB, Q_HO159, Q_HA_HO159, Q_X9_⟩ hb_ hon hoff
              refine ⟨_, rfl, fun K hK => ?_⟩
              have e55 : a.tmps[55]? = some (.bool (decide (x5_6 < 3))) := by rw [ha]; exact putSel_on (e := (26, 55, .bool (decide (x5_6 < 3)))) 26 rfl rfl (hon 26 (by kernel_rfl)) rfl
              replace ha := Aside0.mk ha
              have BK123 := Aside0.mk Q_BK123
              have BK140 := Aside0.mk Q_BK140
              have BK147 := Aside0.mk Q_BK147
              have BK148 := Aside0.mk Q_BK148
              have HB := Aside0.mk Q_HB
              have HO159 := Aside0.mk (Q_HO159 (hon 5 (by kernel_rfl)))
              have HA_HO159 := Aside0.mk (Q_HA_HO159 (hon 5 (by kernel_rfl)))
              refine off_ (wanted_off rfl rfl rfl (e55.trans (by first | rfl | (simp [*]; done)))) ?_
              refine hK.out _ _ ⟨v158, adz_v158, m9_, (by rw [ha.out]; exact putSel_upk 28 hb_ rfl rfl rfl), Q_BK123, Q_BK140, Q_BK147, Q_BK148, Q_HB, Q_HO159, Q_HA_HO159, Q_X9_⟩
             refine steps_cons ?_ ?_
             ·rintro b a w' ⟨v158, adz_v158, m9_, ha, Q_BK123, Q_BK140, Q_BK147, Q_BK148, Q_HB, Q_HO159, Q_HA_HO159, Q_X9_⟩ hb_ hon hoff
              refine ⟨_, rfl, fun K hK => ?_⟩
              have e55 : a.tmps[55]? = some (.bool (decide (x5_6 < 3))) := by rw [ha]; exact putSel_on (e := (26, 55, .bool (decide (x5_6 < 3)))) 26 rfl rfl (hon 26 (by kernel_rfl)) rfl
              have e57 : a.tmps[57]? = some (undef) := by rw [ha]; exact putSel_on (e := (28, 57, undef)) 28 rfl rfl (hon 28 (by kernel_rfl)) rfl
              have e52 : a.tmps[52]? = some (.bool (t141 == t124 && (t142 == t125 && (t143 == t126 && (t144 == t127 && (t145 == t128 && (t146 == 0))))))) := by rw [ha]; exact putSel_on (e := (23, 52, .bool (t141 == t124 && (t142 == t125 && (t143 == t126 && (t144 == t127 && (t145 == t128 && (t146 == 0)))))))) 23 rfl rfl (hon 23 (by kernel_rfl)) rfl
              replace ha := Aside0.mk ha
              have BK123 := Aside0.mk Q_BK123
              have BK140 := Aside0.mk Q_BK140
              have BK147 := Aside0.mk Q_BK147
              have BK148 := Aside0.mk Q_BK148
              have HB := Aside0.mk Q_HB
              have HO159 := Aside0.mk (Q_HO159 (hon 5 (by kernel_rfl)))
              have HA_HO159 := Aside0.mk (Q_HA_HO159 (hon 5 (by kernel_rfl)))
              refine value_ (w1 := w') (v := .bool true) (wanted_on rfl rfl rfl (e52.trans (by first | rfl | (simp [*]; done)))) rfl ?_ ?_
              ·go_simp
               (try simp only [i64_w])
               try rfl
              refine hK.out _ _ ⟨v158, adz_v158, m9_, (by rw [ha.out]; exact putSel_upk 29 hb_ rfl rfl rfl), Q_BK123, Q_BK140, Q_BK147, Q_BK148, Q_HB, Q_HO159, Q_HA_HO159, Q_X9_⟩
             refine steps_cons ?_ ?_
             ·rintro b a w' ⟨v158, adz_v158, m9_, ha, Q_BK123, Q_BK140, Q_BK147, Q_BK148, Q_HB, Q_HO159, Q_HA_HO159, Q_X9_⟩ hb_ hon hoff
              refine ⟨_, rfl, fun K hK => ?_⟩
              have e52 : a.tmps[52]? = some (.bool (t141 == t124 && (t142 == t125 && (t143 == t126 && (t144 == t127 && (t145 == t128 && (t146 == 0))))))) := by rw [ha]; exact putSel_on (e := (23, 52, .bool (t141 == t124 && (t142 == t125 && (t143 == t126 && (t144 == t127 && (t145 == t128 && (t146 == 0)))))))) 23 rfl rfl (hon 23 (by kernel_rfl)) rfl
              have e58 : a.tmps[58]? = some (.bool true) := by rw [ha]; exact putSel_on (e := (29, 58, .bool true)) 29 rfl rfl (hon 29 (by kernel_rfl)) rfl
              replace ha := Aside0.mk ha
              have BK123 := Aside0.mk Q_BK123
              have BK140 := Aside0.mk Q_BK140
              have BK147 := Aside0.mk Q_BK147
              have BK148 := Aside0.mk Q_BK148
              have HB := Aside0.mk Q_HB
              have HO159 := Aside0.mk (Q_HO159 (hon 5 (by kernel_rfl)))
              have HA_HO159 := Aside0.mk (Q_HA_HO159 (hon 5 (by kernel_rfl)))
              refine value_ (w1 := w') (v := .bool true) (by rfl) rfl ?_ ?_
              ·go_simp
               (try simp only [i64_w])
               try rfl
              refine hK.out _ _ ⟨v158, adz_v158, m9_, (by rw [ha.out]; exact putSel_upk 30 hb_ rfl rfl rfl), Q_BK123, Q_BK140, Q_BK147, Q_BK148, Q_HB, Q_HO159, Q_HA_HO159, Q_X9_⟩
             refine steps_cons ?_ ?_
             ·rintro b a w' ⟨v158, adz_v158, m9_, ha, Q_BK123, Q_BK140, Q_BK147, Q_BK148, Q_HB, Q_HO159, Q_HA_HO159, Q_X9_⟩ hb_ hon hoff
              refine ⟨_, rfl, fun K hK => ?_⟩
              have e59 : a.tmps[59]? = some (.bool true) := by rw [ha]; exact putSel_on (e := (30, 59, .bool true)) 30 rfl rfl (hon 30 (by kernel_rfl)) rfl
              replace ha := Aside0.mk ha
              have BK123 := Aside0.mk Q_BK123
              have BK140 := Aside0.mk Q_BK140
              have BK147 := Aside0.mk Q_BK147
              have BK148 := Aside0.mk Q_BK148
              have HB := Aside0.mk Q_HB
              have HO159 := Aside0.mk (Q_HO159 (hon 5 (by kernel_rfl)))
              have HA_HO159 := Aside0.mk (Q_HA_HO159 (hon 5 (by kernel_rfl)))
              refine value_ (w1 := w') (v := .bool true) (by rfl) rfl ?_ ?_
              ·go_simp
               (try simp only [i64_w])
               try rfl
              refine hK.out _ _ ⟨v158, adz_v158, m9_, (by rw [ha.out]; exact putSel_upk 31 hb_ rfl rfl rfl), Q_BK123, Q_BK140, Q_BK147, Q_BK148, Q_HB, Q_HO159, Q_HA_HO159, Q_X9_⟩
             exact steps_nil
            rintro b a w53 hall ⟨v158, adz_v158, m9_, ha, Q_BK123, Q_BK140, Q_BK147, Q_BK148, Q_HB, Q_HO159, Q_HA_HO159, Q_X9_⟩
            clear BK123 BK140 BK147 BK148 HB
            have hb0_ := hall 0 (by kernel_rfl)
            have hb1_ := hall 1 (by kernel_rfl)
            have hb2_ := hall 2 (by kernel_rfl)
            have hb3_ := hall 3 (by kernel_rfl)
            have hb4_ := hall 4 (by kernel_rfl)
            have hb5_ := hall 5 (by kernel_rfl)
            have hb6_ := hall 6 (by kernel_rfl)
            have hb7_ := hall 7 (by kernel_rfl)
            have hb8_ := hall 8 (by kernel_rfl)
            have hb9_ := hall 9 (by kernel_rfl)
            have hb10_ := hall 10 (by kernel_rfl)
            have hb11_ := hall 11 (by kernel_rfl)
            have hb12_ := hall 12 (by kernel_rfl)
            have hb13_ := hall 13 (by kernel_rfl)
            have hb14_ := hall 14 (by kernel_rfl)
            have hb15_ := hall 15 (by kernel_rfl)
            have hb16_ := hall 16 (by kernel_rfl)
            have hb17_ := hall 17 (by kernel_rfl)
            have hb18_ := hall 18 (by kernel_rfl)
            have hb19_ := hall 19 (by kernel_rfl)
            have hb20_ := hall 20 (by kernel_rfl)
            have hb21_ := hall 21 (by kernel_rfl)
            have hb22_ := hall 22 (by kernel_rfl)
            have hb23_ := hall 23 (by kernel_rfl)
            have hb24_ := hall 24 (by kernel_rfl)
            have hb25_ := hall 25 (by kernel_rfl)
            have hb26_ := hall 26 (by kernel_rfl)
            have hb27_ := hall 27 (by kernel_rfl)
            have hb28_ := hall 28 (by kernel_rfl)
            have hb29_ := hall 29 (by kernel_rfl)
            have hb30_ := hall 30 (by kernel_rfl)
            have hb31_ := hall 31 (by kernel_rfl)
            subst ha
            obtain rfl := Q_X9_ hb9_
            simp only [putSel, hb0_, hb1_, hb2_, hb3_, hb4_, hb5_, hb6_, hb7_, hb8_, hb9_, hb10_, hb11_, hb12_, hb13_, hb14_, hb15_, hb16_, hb17_, hb18_, hb19_, hb20_, hb21_, hb22_, hb23_, hb24_, hb25_, hb26_, hb27_, hb28_, hb29_, hb30_, hb31_, if_true, Act.put, List.setIfInBounds_toArray, List.set_cons_zero, List.set_cons_succ]
            have BK123 := Aside0.mk Q_BK123
            clear Q_BK123
            have BK140 := Aside0.mk Q_BK140
            clear Q_BK140
            have BK147 := Aside0.mk Q_BK147
            clear Q_BK147
            have BK148 := Aside0.mk Q_BK148
            clear Q_BK148
            have HB := Aside0.mk Q_HB
            clear Q_HB
            have HO159 := Aside0.mk (Q_HO159 hb5_)
            clear Q_HO159
            have HA_HO159 := Aside0.mk (Q_HA_HO159 hb5_)
            clear Q_HA_HO159
            clear hall hb0_ hb1_ hb2_ hb3_ hb4_ hb5_ hb6_ hb7_ hb8_ hb9_ hb10_ hb11_ hb12_ hb13_ hb14_ hb15_ hb16_ hb17_ hb18_ hb19_ hb20_ hb21_ hb22_ hb23_ hb24_ hb25_ hb26_ hb27_ hb28_ hb29_ hb30_ hb31_
            obtain ⟨co54, eo54⟩ := HA_HO159.out
            clear HA_HO159
            subst eo54
            try go_wp2
            go_ret
            exact ⟨by first | rfl | (simp [errW_none, errW_some] <;> rfl) | (simp only [← hji4]; first | rfl | (simp [errW_none, errW_some] <;> rfl)) | (simp [*, errW_none, errW_some] <;> rfl), by repeat (first | (with_reducible first | exact HB.out | apply kL | apply kM | apply kE | refine kS ?_ GE123.out | refine kS ?_ GE140.out | refine kS ?_ GE147.out | refine kS ?_ GE148.out) | exact HB.out)⟩
           ·rw [if_neg c28] at H
            have c28b0 : decide (x5_6 < 3) = false := decide_eq_false c28
            clear c28
            have HT_ := Option.some.inj H
            clear H
            (try (have HT_z_ := HT_; simp only [beq_true, beq_false, true_beq, false_beq, Bool.not_eq_true', Bool.not_eq_false', Bool.not_true, Bool.not_false] at HT_z_))
            have hcz55_0 : wc.cell? ⟨gb123, 0, none⟩ = some (.int .u8 t124) := (kC BK123.out 0).trans rfl
            have hcz55_1 : wc.cell? ⟨gb123, 1, none⟩ = some (.int .i64 t125) := (kC BK123.out 1).trans rfl
            have hcz55_2 : wc.cell? ⟨gb123, 2, none⟩ = some (.int .i64 t126) := (kC BK123.out 2).trans rfl
            have hcz55_3 : wc.cell? ⟨gb123, 3, none⟩ = some (.int .i64 t127) := (kC BK123.out 3).trans rfl
            have hcz55_4 : wc.cell? ⟨gb123, 4, none⟩ = some (.int .i64 t128) := (kC BK123.out 4).trans rfl
            have hcz55_5 : wc.cell? ⟨gb123, 5, none⟩ = some (.int .u8 t129) := (kC BK123.out 5).trans rfl
            have hfz55_0 := kF BK123.out 0
            have hfz55_1 := kF BK123.out 1
            have hfz55_2 := kF BK123.out 2
            have hfz55_3 := kF BK123.out 3
            have hfz55_4 := kF BK123.out 4
            have hfz55_5 := kF BK123.out 5
            try go_wp2_with (first | ((with_reducible refine gate_callee (f := 6) rfl ?_); refine goesL_ (some 22) rfl rfl Try.func6 (by kernel_rfl) rfl #[.agg #[.int .u8 t124, .int .i64 t125, .int .i64 t126, .int .i64 t127, .int .i64 t128, .int .u8 t129], .int .u8 a1] rfl (by (try simp only [List.map_toArray, List.map_cons, List.map_nil]); first | done | rfl | (simp only [List.length_drop, List.length_take]; rfl)) ?_; (with_reducible refine (notice_Answer.calls t124 t125 t126 t127 t128 t129 a1 t134 t135 t136 t137 t138 t139 _ A17.out).mono ?_); rintro e w56 ⟨rfl, hb⟩; refine ⟨_, rfl, ?_⟩; have n0_ := Aside0.mk (blk_below (g := gb123) (o := .cells #[.int .u8 t124, .int .i64 t125, .int .i64 t126, .int .i64 t127, .int .i64 t128, .int .u8 t129] 23 (0, 0)) (by (with_reducible repeat (first | refine kN ?_ _ | refine kD ?_ | refine kA ?_ _)); exact BK123.out) hb); have n1_ := Aside0.mk (below_step (by repeat (first | (with_reducible first | exact HB.out | apply kL | apply kM | apply kE | refine kS ?_ GE123.out) | exact HB.out)) hb); clear BK123; clear HB; have BK123 := n0_; have HB := n1_; clear n0_ n1_; (try clear hb); (try clear hb2); (try clear hk); (try clear hi)) | ((with_reducible refine gate_dst (N := 6) rfl ?_); (try (refine gate_guard (by rfl) ?_; dsimp only)); refine box_event ?hg (N := 6) ?hd (cs := #[.int .u8 0, .int .i64 0, .int .i64 0, .int .i64 0, .int .i64 0, .int .u8 0]) (t := 23) ?hr ?_; (case hd => rfl); (case hg => rfl); (case hr => first | (go_simp; done) | (go_simp; rfl)); intro gb140 hg w57 hbox hb; have n0_ := Aside0.mk (blk_below (g := gb123) (o := .cells #[.int .u8 t124, .int .i64 t125, .int .i64 t126, .int .i64 t127, .int .i64 t128, .int .u8 t129] 23 (0, 0)) (by (with_reducible repeat (first | refine kN ?_ _ | refine kD ?_ | refine kA ?_ _)); exact BK123.out) hb); have n1_ := Aside0.mk (below_step (by repeat (first | (with_reducible first | exact HB.out | apply kL | apply kM | apply kE | refine kS ?_ GE123.out) | exact HB.out)) hb); have n2_ := Aside0.mk (hbox); have n3_ := Aside0.mk ((by rw [hg]; exact (below_size (by repeat (first | (with_reducible first | exact HB.out | apply kL | apply kM | apply kE | refine kS ?_ GE123.out) | exact HB.out))) : w.heap.size ≤ gb140)); have n4_ := Aside0.mk ((by rw [hg]; exact (below_size (by repeat (first | (with_reducible first | exact HB.out | apply kL | apply kM | apply kE | refine kS ?_ GE123.out) | exact HB.out))) : w.heap.size ≤ gb140)); have n5_ := Aside0.mk ((by rw [hg]; exact Nat.ne_of_lt (blk_lt (g := gb123) (o := .cells #[.int .u8 t124, .int .i64 t125, .int .i64 t126, .int .i64 t127, .int .i64 t128, .int .u8 t129] 23 (0, 0)) (by (with_reducible repeat (first | refine kN ?_ _ | refine kD ?_ | refine kA ?_ _)); exact BK123.out)) : gb123 ≠ gb140)); have n6_ := Aside0.mk ((by rw [hg]; exact Nat.ne_of_gt (blk_lt (g := gb123) (o := .cells #[.int .u8 t124, .int .i64 t125, .int .i64 t126, .int .i64 t127, .int .i64 t128, .int .u8 t129] 23 (0, 0)) (by (with_reducible repeat (first | refine kN ?_ _ | refine kD ?_ | refine kA ?_ _)); exact BK123.out)) : gb140 ≠ gb123)); clear BK123; clear HB; have BK123 := n0_; have HB := n1_; have BK140 := n2_; have GW140 := n3_; have GE140 := n4_; have NB123_140 := n5_; have NB140_123 := n6_; clear n0_ n1_ n2_ n3_ n4_ n5_ n6_; clear hb hbox hg; have hnb58 := NB140_123.out; have hnc58 := NB123_140.out; have hcz59_0 : w57.cell? ⟨gb140, 0, none⟩ = some (.int .u8 0) := (kC BK140.out 0).trans rfl; have hcz59_1 : w57.cell? ⟨gb140, 1, none⟩ = some (.int .i64 0) := (kC BK140.out 1).trans rfl; have hcz59_2 : w57.cell? ⟨gb140, 2, none⟩ = some (.int .i64 0) := (kC BK140.out 2).trans rfl; have hcz59_3 : w57.cell? ⟨gb140, 3, none⟩ = some (.int .i64 0) := (kC BK140.out 3).trans rfl; have hcz59_4 : w57.cell? ⟨gb140, 4, none⟩ = some (.int .i64 0) := (kC BK140.out 4).trans rfl; have hcz59_5 : w57.cell? ⟨gb140, 5, none⟩ = some (.int .u8 0) := (kC BK140.out 5).trans rfl; have hfz59_0 := kF BK140.out 0; have hfz59_1 := kF BK140.out 1; have hfz59_2 := kF BK140.out 2; have hfz59_3 := kF BK140.out 3; have hfz59_4 := kF BK140.out 4; have hfz59_5 := kF BK140.out 5) | ((with_reducible refine gate_callee (f := 7) rfl ?_); refine goesL_ (some 24) rfl rfl Try.func7 (by kernel_rfl) rfl #[.agg #[.int .u8 t134, .int .i64 t135, .int .i64 t136, .int .i64 t137, .int .i64 t138, .int .u8 t139]] rfl (by (try simp only [List.map_toArray, List.map_cons, List.map_nil]); first | done | rfl | (simp only [List.length_drop, List.length_take]; rfl)) ?_; (with_reducible refine (notice_Asked.calls t134 t135 t136 t137 t138 t139 t141 t142 t143 t144 t145 t146 _ A18.out).mono ?_); rintro e w60 ⟨rfl, hb⟩; refine ⟨_, rfl, ?_⟩; have n0_ := Aside0.mk (blk_below (g := gb123) (o := .cells #[.int .u8 t124, .int .i64 t125, .int .i64 t126, .int .i64 t127, .int .i64 t128, .int .u8 t129] 23 (0, 0)) (by (with_reducible repeat (first | refine kN ?_ _ | refine kD ?_ | refine kA ?_ _)); refine kR ?_ NB123_140.out _; (with_reducible repeat (first | refine kN ?_ _ | refine kD ?_ | refine kA ?_ _)); refine kR ?_ NB123_140.out _; (with_reducible repeat (first | refine kN ?_ _ | refine kD ?_ | refine kA ?_ _)); refine kR ?_ NB123_140.out _; (with_reducible repeat (first | refine kN ?_ _ | refine kD ?_ | refine kA ?_ _)); refine kR ?_ NB123_140.out _; (with_reducible repeat (first | refine kN ?_ _ | refine kD ?_ | refine kA ?_ _)); refine kR ?_ NB123_140.out _; (with_reducible repeat (first | refine kN ?_ _ | refine kD ?_ | refine kA ?_ _)); refine kR ?_ NB123_140.out _; (with_reducible repeat (first | refine kN ?_ _ | refine kD ?_ | refine kA ?_ _)); exact BK123.out) hb); have n1_ := Aside0.mk (blk_below (g := gb140) (o := .cells #[.int .u8 t134, .int .i64 t135, .int .i64 t136, .int .i64 t137, .int .i64 t138, .int .u8 t139] 23 (0, 0)) (by (with_reducible repeat (first | refine kN ?_ _ | refine kD ?_ | refine kA ?_ _)); refine kP (cs := #[.int .u8 t134, .int .i64 t135, .int .i64 t136, .int .i64 t137, .int .i64 t138, .int .u8 0]) ?_ 5 _ rfl; (with_reducible repeat (first | refine kN ?_ _ | refine kD ?_ | refine kA ?_ _)); refine kP (cs := #[.int .u8 t134, .int .i64 t135, .int .i64 t136, .int .i64 t137, .int .i64 0, .int .u8 0]) ?_ 4 _ rfl; (with_reducible repeat (first | refine kN ?_ _ | refine kD ?_ | refine kA ?_ _)); refine kP (cs := #[.int .u8 t134, .int .i64 t135, .int .i64 t136, .int .i64 0, .int .i64 0, .int .u8 0]) ?_ 3 _ rfl; (with_reducible repeat (first | refine kN ?_ _ | refine kD ?_ | refine kA ?_ _)); refine kP (cs := #[.int .u8 t134, .int .i64 t135, .int .i64 0, .int .i64 0, .int .i64 0, .int .u8 0]) ?_ 2 _ rfl; (with_reducible repeat (first | refine kN ?_ _ | refine kD ?_ | refine kA ?_ _)); refine kP (cs := #[.int .u8 t134, .int .i64 0, .int .i64 0, .int .i64 0, .int .i64 0, .int .u8 0]) ?_ 1 _ rfl; (with_reducible repeat (first | refine kN ?_ _ | refine kD ?_ | refine kA ?_ _)); refine kP (cs := #[.int .u8 0, .int .i64 0, .int .i64 0, .int .i64 0, .int .i64 0, .int .u8 0]) ?_ 0 _ rfl; (with_reducible repeat (first | refine kN ?_ _ | refine kD ?_ | refine kA ?_ _)); exact BK140.out) hb); have n2_ := Aside0.mk (below_step (by repeat (first | (with_reducible first | exact HB.out | apply kL | apply kM | apply kE | refine kS ?_ GE123.out | refine kS ?_ GE140.out) | exact HB.out)) hb); clear BK123; clear BK140; clear HB; have BK123 := n0_; have BK140 := n1_; have HB := n2_; clear n0_ n1_ n2_; (try clear hb); (try clear hb2); (try clear hk); (try clear hi)) | ((with_reducible refine gate_dst (N := 7) rfl ?_); (try (refine gate_guard (by rfl) ?_; dsimp only)); refine box_event ?hg (N := 7) ?hd (cs := #[.int .u8 0, .int .i64 0, .int .i64 0, .int .i64 0, .int .i64 0, .int .u8 0]) (t := 23) ?hr ?_; (case hd => rfl); (case hg => rfl); (case hr => first | (go_simp; done) | (go_simp; rfl)); intro gb147 hg w61 hbox hb; have n0_ := Aside0.mk (blk_below (g := gb123) (o := .cells #[.int .u8 t124, .int .i64 t125, .int .i64 t126, .int .i64 t127, .int .i64 t128, .int .u8 t129] 23 (0, 0)) (by (with_reducible repeat (first | refine kN ?_ _ | refine kD ?_ | refine kA ?_ _)); exact BK123.out) hb); have n1_ := Aside0.mk (blk_below (g := gb140) (o := .cells #[.int .u8 t134, .int .i64 t135, .int .i64 t136, .int .i64 t137, .int .i64 t138, .int .u8 t139] 23 (0, 0)) (by (with_reducible repeat (first | refine kN ?_ _ | refine kD ?_ | refine kA ?_ _)); exact BK140.out) hb); have n2_ := Aside0.mk (below_step (by repeat (first | (with_reducible first | exact HB.out | apply kL | apply kM | apply kE | refine kS ?_ GE123.out | refine kS ?_ GE140.out) | exact HB.out)) hb); have n3_ := Aside0.mk (hbox); have n4_ := Aside0.mk ((by rw [hg]; exact (below_size (by repeat (first | (with_reducible first | exact HB.out | apply kL | apply kM | apply kE | refine kS ?_ GE123.out | refine kS ?_ GE140.out) | exact HB.out))) : w.heap.size ≤ gb147)); have n5_ := Aside0.mk ((by rw [hg]; exact (below_size (by repeat (first | (with_reducible first | exact HB.out | apply kL | apply kM | apply kE | refine kS ?_ GE123.out | refine kS ?_ GE140.out) | exact HB.out))) : w.heap.size ≤ gb147)); have n6_ := Aside0.mk ((by rw [hg]; exact Nat.ne_of_lt (blk_lt (g := gb123) (o := .cells #[.int .u8 t124, .int .i64 t125, .int .i64 t126, .int .i64 t127, .int .i64 t128, .int .u8 t129] 23 (0, 0)) (by (with_reducible repeat (first | refine kN ?_ _ | refine kD ?_ | refine kA ?_ _)); exact BK123.out)) : gb123 ≠ gb147)); have n7_ := Aside0.mk ((by rw [hg]; exact Nat.ne_of_gt (blk_lt (g := gb123) (o := .cells #[.int .u8 t124, .int .i64 t125, .int .i64 t126, .int .i64 t127, .int .i64 t128, .int .u8 t129] 23 (0, 0)) (by (with_reducible repeat (first | refine kN ?_ _ | refine kD ?_ | refine kA ?_ _)); exact BK123.out)) : gb147 ≠ gb123)); have n8_ := Aside0.mk ((by rw [hg]; exact Nat.ne_of_lt (blk_lt (g := gb140) (o := .cells #[.int .u8 t134, .int .i64 t135, .int .i64 t136, .int .i64 t137, .int .i64 t138, .int .u8 t139] 23 (0, 0)) (by (with_reducible repeat (first | refine kN ?_ _ | refine kD ?_ | refine kA ?_ _)); exact BK140.out)) : gb140 ≠ gb147)); have n9_ := Aside0.mk ((by rw [hg]; exact Nat.ne_of_gt (blk_lt (g := gb140) (o := .cells #[.int .u8 t134, .int .i64 t135, .int .i64 t136, .int .i64 t137, .int .i64 t138, .int .u8 t139] 23 (0, 0)) (by (with_reducible repeat (first | refine kN ?_ _ | refine kD ?_ | refine kA ?_ _)); exact BK140.out)) : gb147 ≠ gb140)); clear BK123; clear BK140; clear HB; have BK123 := n0_; have BK140 := n1_; have HB := n2_; have BK147 := n3_; have GW147 := n4_; have GE147 := n5_; have NB123_147 := n6_; have NB147_123 := n7_; have NB140_147 := n8_; have NB147_140 := n9_; clear n0_ n1_ n2_ n3_ n4_ n5_ n6_ n7_ n8_ n9_; clear hb hbox hg; have hnb62 := NB147_123.out; have hnc62 := NB123_147.out; have hnb63 := NB147_140.out; have hnc63 := NB140_147.out; have hcz64_0 : w61.cell? ⟨gb147, 0, none⟩ = some (.int .u8 0) := (kC BK147.out 0).trans rfl; have hcz64_1 : w61.cell? ⟨gb147, 1, none⟩ = some (.int .i64 0) := (kC BK147.out 1).trans rfl; have hcz64_2 : w61.cell? ⟨gb147, 2, none⟩ = some (.int .i64 0) := (kC BK147.out 2).trans rfl; have hcz64_3 : w61.cell? ⟨gb147, 3, none⟩ = some (.int .i64 0) := (kC BK147.out 3).trans rfl; have hcz64_4 : w61.cell? ⟨gb147, 4, none⟩ = some (.int .i64 0) := (kC BK147.out 4).trans rfl; have hcz64_5 : w61.cell? ⟨gb147, 5, none⟩ = some (.int .u8 0) := (kC BK147.out 5).trans rfl; have hfz64_0 := kF BK147.out 0; have hfz64_1 := kF BK147.out 1; have hfz64_2 := kF BK147.out 2; have hfz64_3 := kF BK147.out 3; have hfz64_4 := kF BK147.out 4; have hfz64_5 := kF BK147.out 5; have hcz65_0 : w61.cell? ⟨gb123, 0, none⟩ = some (.int .u8 t124) := (kC BK123.out 0).trans rfl; have hcz65_1 : w61.cell? ⟨gb123, 1, none⟩ = some (.int .i64 t125) := (kC BK123.out 1).trans rfl; have hcz65_2 : w61.cell? ⟨gb123, 2, none⟩ = some (.int .i64 t126) := (kC BK123.out 2).trans rfl; have hcz65_3 : w61.cell? ⟨gb123, 3, none⟩ = some (.int .i64 t127) := (kC BK123.out 3).trans rfl; have hcz65_4 : w61.cell? ⟨gb123, 4, none⟩ = some (.int .i64 t128) := (kC BK123.out 4).trans rfl; have hcz65_5 : w61.cell? ⟨gb123, 5, none⟩ = some (.int .u8 t129) := (kC BK123.out 5).trans rfl; have hfz65_0 := kF BK123.out 0; have hfz65_1 := kF BK123.out 1; have hfz65_2 := kF BK123.out 2; have hfz65_3 := kF BK123.out 3; have hfz65_4 := kF BK123.out 4; have hfz65_5 := kF BK123.out 5) | ((with_reducible refine gate_dst (N := 26) rfl ?_); (try (refine gate_guard (by rfl) ?_; dsimp only)); refine wpList_load_row rfl 23 (.tmp 2) rfl gb123 rfl 23 #[.int .u8 t124, .int .i64 t125, .int .i64 t126, .int .i64 t127, .int .i64 t128, .int .u8 0] (0, 0) _ (by (with_reducible repeat (first | refine kN ?_ _ | refine kD ?_ | refine kA ?_ _)); refine kP (cs := #[.int .u8 t124, .int .i64 t125, .int .i64 t126, .int .i64 t127, .int .i64 t128, .int .u8 t129]) ?_ 5 _ rfl; (with_reducible repeat (first | refine kN ?_ _ | refine kD ?_ | refine kA ?_ _)); refine kR ?_ NB123_147.out _; (with_reducible repeat (first | refine kN ?_ _ | refine kD ?_ | refine kA ?_ _)); refine kR ?_ NB123_147.out _; (with_reducible repeat (first | refine kN ?_ _ | refine kD ?_ | refine kA ?_ _)); refine kR ?_ NB123_147.out _; (with_reducible repeat (first | refine kN ?_ _ | refine kD ?_ | refine kA ?_ _)); refine kR ?_ NB123_147.out _; (with_reducible repeat (first | refine kN ?_ _ | refine kD ?_ | refine kA ?_ _)); refine kR ?_ NB123_147.out _; (with_reducible repeat (first | refine kN ?_ _ | refine kD ?_ | refine kA ?_ _)); refine kR ?_ NB123_147.out _; (with_reducible repeat (first | refine kN ?_ _ | refine kD ?_ | refine kA ?_ _)); exact BK123.out) Try.underlying23 rfl (by kernel_rfl) ?_) | ((with_reducible refine gate_dst (N := 8) rfl ?_); (try (refine gate_guard (by rfl) ?_; dsimp only)); refine box_event ?hg (N := 8) ?hd (cs := #[.int .u8 0, .int .i64 0, .int .i64 0, .int .i64 0, .int .i64 0, .int .u8 0]) (t := 23) ?hr ?_; (case hd => rfl); (case hg => rfl); (case hr => first | (go_simp; done) | (go_simp; rfl)); intro gb148 hg w66 hbox hb; have n0_ := Aside0.mk (blk_below (g := gb123) (o := .cells #[.int .u8 t124, .int .i64 t125, .int .i64 t126, .int .i64 t127, .int .i64 t128, .int .u8 0] 23 (0, 0)) (by (with_reducible repeat (first | refine kN ?_ _ | refine kD ?_ | refine kA ?_ _)); refine kP (cs := #[.int .u8 t124, .int .i64 t125, .int .i64 t126, .int .i64 t127, .int .i64 t128, .int .u8 t129]) ?_ 5 _ rfl; (with_reducible repeat (first | refine kN ?_ _ | refine kD ?_ | refine kA ?_ _)); refine kR ?_ NB123_147.out _; (with_reducible repeat (first | refine kN ?_ _ | refine kD ?_ | refine kA ?_ _)); refine kR ?_ NB123_147.out _; (with_reducible repeat (first | refine kN ?_ _ | refine kD ?_ | refine kA ?_ _)); refine kR ?_ NB123_147.out _; (with_reducible repeat (first | refine kN ?_ _ | refine kD ?_ | refine kA ?_ _)); refine kR ?_ NB123_147.out _; (with_reducible repeat (first | refine kN ?_ _ | refine kD ?_ | refine kA ?_ _)); refine kR ?_ NB123_147.out _; (with_reducible repeat (first | refine kN ?_ _ | refine kD ?_ | refine kA ?_ _)); refine kR ?_ NB123_147.out _; (with_reducible repeat (first | refine kN ?_ _ | refine kD ?_ | refine kA ?_ _)); exact BK123.out) hb); have n1_ := Aside0.mk (blk_below (g := gb140) (o := .cells #[.int .u8 t134, .int .i64 t135, .int .i64 t136, .int .i64 t137, .int .i64 t138, .int .u8 t139] 23 (0, 0)) (by (with_reducible repeat (first | refine kN ?_ _ | refine kD ?_ | refine kA ?_ _)); refine kR ?_ NB140_123.out _; (with_reducible repeat (first | refine kN ?_ _ | refine kD ?_ | refine kA ?_ _)); refine kR ?_ NB140_147.out _; (with_reducible repeat (first | refine kN ?_ _ | refine kD ?_ | refine kA ?_ _)); refine kR ?_ NB140_147.out _; (with_reducible repeat (first | refine kN ?_ _ | refine kD ?_ | refine kA ?_ _)); refine kR ?_ NB140_147.out _; (with_reducible repeat (first | refine kN ?_ _ | refine kD ?_ | refine kA ?_ _)); refine kR ?_ NB140_147.out _; (with_reducible repeat (first | refine kN ?_ _ | refine kD ?_ | refine kA ?_ _)); refine kR ?_ NB140_147.out _; (with_reducible repeat (first | refine kN ?_ _ | refine kD ?_ | refine kA ?_ _)); refine kR ?_ NB140_147.out _; (with_reducible repeat (first | refine kN ?_ _ | refine kD ?_ | refine kA ?_ _)); exact BK140.out) hb); have n2_ := Aside0.mk (blk_below (g := gb147) (o := .cells #[.int .u8 t141, .int .i64 t142, .int .i64 t143, .int .i64 t144, .int .i64 t145, .int .u8 t146] 23 (0, 0)) (by (with_reducible repeat (first | refine kN ?_ _ | refine kD ?_ | refine kA ?_ _)); refine kR ?_ NB147_123.out _; (with_reducible repeat (first | refine kN ?_ _ | refine kD ?_ | refine kA ?_ _)); refine kP (cs := #[.int .u8 t141, .int .i64 t142, .int .i64 t143, .int .i64 t144, .int .i64 t145, .int .u8 0]) ?_ 5 _ rfl; (with_reducible repeat (first | refine kN ?_ _ | refine kD ?_ | refine kA ?_ _)); refine kP (cs := #[.int .u8 t141, .int .i64 t142, .int .i64 t143, .int .i64 t144, .int .i64 0, .int .u8 0]) ?_ 4 _ rfl; (with_reducible repeat (first | refine kN ?_ _ | refine kD ?_ | refine kA ?_ _)); refine kP (cs := #[.int .u8 t141, .int .i64 t142, .int .i64 t143, .int .i64 0, .int .i64 0, .int .u8 0]) ?_ 3 _ rfl; (with_reducible repeat (first | refine kN ?_ _ | refine kD ?_ | refine kA ?_ _)); refine kP (cs := #[.int .u8 t141, .int .i64 t142, .int .i64 0, .int .i64 0, .int .i64 0, .int .u8 0]) ?_ 2 _ rfl; (with_reducible repeat (first | refine kN ?_ _ | refine kD ?_ | refine kA ?_ _)); refine kP (cs := #[.int .u8 t141, .int .i64 0, .int .i64 0, .int .i64 0, .int .i64 0, .int .u8 0]) ?_ 1 _ rfl; (with_reducible repeat (first | refine kN ?_ _ | refine kD ?_ | refine kA ?_ _)); refine kP (cs := #[.int .u8 0, .int .i64 0, .int .i64 0, .int .i64 0, .int .i64 0, .int .u8 0]) ?_ 0 _ rfl; (with_reducible repeat (first | refine kN ?_ _ | refine kD ?_ | refine kA ?_ _)); exact BK147.out) hb); have n3_ := Aside0.mk (below_step (by repeat (first | (with_reducible first | exact HB.out | apply kL | apply kM | apply kE | refine kS ?_ GE123.out | refine kS ?_ GE140.out | refine kS ?_ GE147.out) | exact HB.out)) hb); have n4_ := Aside0.mk (hbox); have n5_ := Aside0.mk ((by rw [hg]; exact (below_size (by repeat (first | (with_reducible first | exact HB.out | apply kL | apply kM | apply kE | refine kS ?_ GE123.out | refine kS ?_ GE140.out | refine kS ?_ GE147.out) | exact HB.out))) : w.heap.size ≤ gb148)); have n6_ := Aside0.mk ((by rw [hg]; exact (below_size (by repeat (first | (with_reducible first | exact HB.out | apply kL | apply kM | apply kE | refine kS ?_ GE123.out | refine kS ?_ GE140.out | refine kS ?_ GE147.out) | exact HB.out))) : w.heap.size ≤ gb148)); have n7_ := Aside0.mk ((by rw [hg]; exact Nat.ne_of_lt (blk_lt (g := gb123) (o := .cells #[.int .u8 t124, .int .i64 t125, .int .i64 t126, .int .i64 t127, .int .i64 t128, .int .u8 0] 23 (0, 0)) (by (with_reducible repeat (first | refine kN ?_ _ | refine kD ?_ | refine kA ?_ _)); refine kP (cs := #[.int .u8 t124, .int .i64 t125, .int .i64 t126, .int .i64 t127, .int .i64 t128, .int .u8 t129]) ?_ 5 _ rfl; (with_reducible repeat (first | refine kN ?_ _ | refine kD ?_ | refine kA ?_ _)); refine kR ?_ NB123_147.out _; (with_reducible repeat (first | refine kN ?_ _ | refine kD ?_ | refine kA ?_ _)); refine kR ?_ NB123_147.out _; (with_reducible repeat (first | refine kN ?_ _ | refine kD ?_ | refine kA ?_ _)); refine kR ?_ NB123_147.out _; (with_reducible repeat (first | refine kN ?_ _ | refine kD ?_ | refine kA ?_ _)); refine kR ?_ NB123_147.out _; (with_reducible repeat (first | refine kN ?_ _ | refine kD ?_ | refine kA ?_ _)); refine kR ?_ NB123_147.out _; (with_reducible repeat (first | refine kN ?_ _ | refine kD ?_ | refine kA ?_ _)); refine kR ?_ NB123_147.out _; (with_reducible repeat (first | refine kN ?_ _ | refine kD ?_ | refine kA ?_ _)); exact BK123.out)) : gb123 ≠ gb148)); have n8_ := Aside0.mk ((by rw [hg]; exact Nat.ne_of_gt (blk_lt (g := gb123) (o := .cells #[.int .u8 t124, .int .i64 t125, .int .i64 t126, .int .i64 t127, .int .i64 t128, .int .u8 0] 23 (0, 0)) (by (with_reducible repeat (first | refine kN ?_ _ | refine kD ?_ | refine kA ?_ _)); refine kP (cs := #[.int .u8 t124, .int .i64 t125, .int .i64 t126, .int .i64 t127, .int .i64 t128, .int .u8 t129]) ?_ 5 _ rfl; (with_reducible repeat (first | refine kN ?_ _ | refine kD ?_ | refine kA ?_ _)); refine kR ?_ NB123_147.out _; (with_reducible repeat (first | refine kN ?_ _ | refine kD ?_ | refine kA ?_ _)); refine kR ?_ NB123_147.out _; (with_reducible repeat (first | refine kN ?_ _ | refine kD ?_ | refine kA ?_ _)); refine kR ?_ NB123_147.out _; (with_reducible repeat (first | refine kN ?_ _ | refine kD ?_ | refine kA ?_ _)); refine kR ?_ NB123_147.out _; (with_reducible repeat (first | refine kN ?_ _ | refine kD ?_ | refine kA ?_ _)); refine kR ?_ NB123_147.out _; (with_reducible repeat (first | refine kN ?_ _ | refine kD ?_ | refine kA ?_ _)); refine kR ?_ NB123_147.out _; (with_reducible repeat (first | refine kN ?_ _ | refine kD ?_ | refine kA ?_ _)); exact BK123.out)) : gb148 ≠ gb123)); have n9_ := Aside0.mk ((by rw [hg]; exact Nat.ne_of_lt (blk_lt (g := gb140) (o := .cells #[.int .u8 t134, .int .i64 t135, .int .i64 t136, .int .i64 t137, .int .i64 t138, .int .u8 t139] 23 (0, 0)) (by (with_reducible repeat (first | refine kN ?_ _ | refine kD ?_ | refine kA ?_ _)); refine kR ?_ NB140_123.out _; (with_reducible repeat (first | refine kN ?_ _ | refine kD ?_ | refine kA ?_ _)); refine kR ?_ NB140_147.out _; (with_reducible repeat (first | refine kN ?_ _ | refine kD ?_ | refine kA ?_ _)); refine kR ?_ NB140_147.out _; (with_reducible repeat (first | refine kN ?_ _ | refine kD ?_ | refine kA ?_ _)); refine kR ?_ NB140_147.out _; (with_reducible repeat (first | refine kN ?_ _ | refine kD ?_ | refine kA ?_ _)); refine kR ?_ NB140_147.out _; (with_reducible repeat (first | refine kN ?_ _ | refine kD ?_ | refine kA ?_ _)); refine kR ?_ NB140_147.out _; (with_reducible repeat (first | refine kN ?_ _ | refine kD ?_ | refine kA ?_ _)); refine kR ?_ NB140_147.out _; (with_reducible repeat (first | refine kN ?_ _ | refine kD ?_ | refine kA ?_ _)); exact BK140.out)) : gb140 ≠ gb148)); have n10_ := Aside0.mk ((by rw [hg]; exact Nat.ne_of_gt (blk_lt (g := gb140) (o := .cells #[.int .u8 t134, .int .i64 t135, .int .i64 t136, .int .i64 t137, .int .i64 t138, .int .u8 t139] 23 (0, 0)) (by (with_reducible repeat (first | refine kN ?_ _ | refine kD ?_ | refine kA ?_ _)); refine kR ?_ NB140_123.out _; (with_reducible repeat (first | refine kN ?_ _ | refine kD ?_ | refine kA ?_ _)); refine kR ?_ NB140_147.out _; (with_reducible repeat (first | refine kN ?_ _ | refine kD ?_ | refine kA ?_ _)); refine kR ?_ NB140_147.out _; (with_reducible repeat (first | refine kN ?_ _ | refine kD ?_ | refine kA ?_ _)); refine kR ?_ NB140_147.out _; (with_reducible repeat (first | refine kN ?_ _ | refine kD ?_ | refine kA ?_ _)); refine kR ?_ NB140_147.out _; (with_reducible repeat (first | refine kN ?_ _ | refine kD ?_ | refine kA ?_ _)); refine kR ?_ NB140_147.out _; (with_reducible repeat (first | refine kN ?_ _ | refine kD ?_ | refine kA ?_ _)); refine kR ?_ NB140_147.out _; (with_reducible repeat (first | refine kN ?_ _ | refine kD ?_ | refine kA ?_ _)); exact BK140.out)) : gb148 ≠ gb140)); have n11_ := Aside0.mk ((by rw [hg]; exact Nat.ne_of_lt (blk_lt (g := gb147) (o := .cells #[.int .u8 t141, .int .i64 t142, .int .i64 t143, .int .i64 t144, .int .i64 t145, .int .u8 t146] 23 (0, 0)) (by (with_reducible repeat (first | refine kN ?_ _ | refine kD ?_ | refine kA ?_ _)); refine kR ?_ NB147_123.out _; (with_reducible repeat (first | refine kN ?_ _ | refine kD ?_ | refine kA ?_ _)); refine kP (cs := #[.int .u8 t141, .int .i64 t142, .int .i64 t143, .int .i64 t144, .int .i64 t145, .int .u8 0]) ?_ 5 _ rfl; (with_reducible repeat (first | refine kN ?_ _ | refine kD ?_ | refine kA ?_ _)); refine kP (cs := #[.int .u8 t141, .int .i64 t142, .int .i64 t143, .int .i64 t144, .int .i64 0, .int .u8 0]) ?_ 4 _ rfl; (with_reducible repeat (first | refine kN ?_ _ | refine kD ?_ | refine kA ?_ _)); refine kP (cs := #[.int .u8 t141, .int .i64 t142, .int .i64 t143, .int .i64 0, .int .i64 0, .int .u8 0]) ?_ 3 _ rfl; (with_reducible repeat (first | refine kN ?_ _ | refine kD ?_ | refine kA ?_ _)); refine kP (cs := #[.int .u8 t141, .int .i64 t142, .int .i64 0, .int .i64 0, .int .i64 0, .int .u8 0]) ?_ 2 _ rfl; (with_reducible repeat (first | refine kN ?_ _ | refine kD ?_ | refine kA ?_ _)); refine kP (cs := #[.int .u8 t141, .int .i64 0, .int .i64 0, .int .i64 0, .int .i64 0, .int .u8 0]) ?_ 1 _ rfl; (with_reducible repeat (first | refine kN ?_ _ | refine kD ?_ | refine kA ?_ _)); refine kP (cs := #[.int .u8 0, .int .i64 0, .int .i64 0, .int .i64 0, .int .i64 0, .int .u8 0]) ?_ 0 _ rfl; (with_reducible repeat (first | refine kN ?_ _ | refine kD ?_ | refine kA ?_ _)); exact BK147.out)) : gb147 ≠ gb148)); have n12_ := Aside0.mk ((by rw [hg]; exact Nat.ne_of_gt (blk_lt (g := gb147) (o := .cells #[.int .u8 t141, .int .i64 t142, .int .i64 t143, .int .i64 t144, .int .i64 t145, .int .u8 t146] 23 (0, 0)) (by (with_reducible repeat (first | refine kN ?_ _ | refine kD ?_ | refine kA ?_ _)); refine kR ?_ NB147_123.out _; (with_reducible repeat (first | refine kN ?_ _ | refine kD ?_ | refine kA ?_ _)); refine kP (cs := #[.int .u8 t141, .int .i64 t142, .int .i64 t143, .int .i64 t144, .int .i64 t145, .int .u8 0]) ?_ 5 _ rfl; (with_reducible repeat (first | refine kN ?_ _ | refine kD ?_ | refine kA ?_ _)); refine kP (cs := #[.int .u8 t141, .int .i64 t142, .int .i64 t143, .int .i64 t144, .int .i64 0, .int .u8 0]) ?_ 4 _ rfl; (with_reducible repeat (first | refine kN ?_ _ | refine kD ?_ | refine kA ?_ _)); refine kP (cs := #[.int .u8 t141, .int .i64 t142, .int .i64 t143, .int .i64 0, .int .i64 0, .int .u8 0]) ?_ 3 _ rfl; (with_reducible repeat (first | refine kN ?_ _ | refine kD ?_ | refine kA ?_ _)); refine kP (cs := #[.int .u8 t141, .int .i64 t142, .int .i64 0, .int .i64 0, .int .i64 0, .int .u8 0]) ?_ 2 _ rfl; (with_reducible repeat (first | refine kN ?_ _ | refine kD ?_ | refine kA ?_ _)); refine kP (cs := #[.int .u8 t141, .int .i64 0, .int .i64 0, .int .i64 0, .int .i64 0, .int .u8 0]) ?_ 1 _ rfl; (with_reducible repeat (first | refine kN ?_ _ | refine kD ?_ | refine kA ?_ _)); refine kP (cs := #[.int .u8 0, .int .i64 0, .int .i64 0, .int .i64 0, .int .i64 0, .int .u8 0]) ?_ 0 _ rfl; (with_reducible repeat (first | refine kN ?_ _ | refine kD ?_ | refine kA ?_ _)); exact BK147.out)) : gb148 ≠ gb147)); clear BK123; clear BK140; clear BK147; clear HB; have BK123 := n0_; have BK140 := n1_; have BK147 := n2_; have HB := n3_; have BK148 := n4_; have GW148 := n5_; have GE148 := n6_; have NB123_148 := n7_; have NB148_123 := n8_; have NB140_148 := n9_; have NB148_140 := n10_; have NB147_148 := n11_; have NB148_147 := n12_; clear n0_ n1_ n2_ n3_ n4_ n5_ n6_ n7_ n8_ n9_ n10_ n11_ n12_; clear hb hbox hg; have hnb67 := NB148_123.out; have hnc67 := NB123_148.out; have hnb68 := NB148_140.out; have hnc68 := NB140_148.out; have hnb69 := NB148_147.out; have hnc69 := NB147_148.out; have hcz70_0 : w66.cell? ⟨gb148, 0, none⟩ = some (.int .u8 0) := (kC BK148.out 0).trans rfl; have hcz70_1 : w66.cell? ⟨gb148, 1, none⟩ = some (.int .i64 0) := (kC BK148.out 1).trans rfl; have hcz70_2 : w66.cell? ⟨gb148, 2, none⟩ = some (.int .i64 0) := (kC BK148.out 2).trans rfl; have hcz70_3 : w66.cell? ⟨gb148, 3, none⟩ = some (.int .i64 0) := (kC BK148.out 3).trans rfl; have hcz70_4 : w66.cell? ⟨gb148, 4, none⟩ = some (.int .i64 0) := (kC BK148.out 4).trans rfl; have hcz70_5 : w66.cell? ⟨gb148, 5, none⟩ = some (.int .u8 0) := (kC BK148.out 5).trans rfl; have hfz70_0 := kF BK148.out 0; have hfz70_1 := kF BK148.out 1; have hfz70_2 := kF BK148.out 2; have hfz70_3 := kF BK148.out 3; have hfz70_4 := kF BK148.out 4; have hfz70_5 := kF BK148.out 5))
            have pi160 : (0 ≤ ((ji4) : Int)) = True := eq_true (of_decide_eq_true (by first | (with_reducible assumption) | assumption))
            have qi160 : ((ji4) < (y157.length : Int)) = True := eq_true (of_decide_eq_true (by first | (with_reducible assumption) | assumption))
            have n0_ : Aside0 ((((((((w66.setCell ⟨gb148, 0, none⟩ (.int .u8 t124)).setCell ⟨gb148, 1, none⟩ (.int .i64 t125)).setCell ⟨gb148, 2, none⟩ (.int .i64 t126)).setCell ⟨gb148, 3, none⟩ (.int .i64 t127)).setCell ⟨gb148, 4, none⟩ (.int .i64 t128)).setCell ⟨gb148, 5, none⟩ (.int .u8 0)).setCell ⟨gb148, 5, none⟩ (.int .u8 a1)).heap[gb123]? = some (.cells #[.int .u8 t124, .int .i64 t125, .int .i64 t126, .int .i64 t127, .int .i64 t128, .int .u8 0] 23 (0, 0))) := ⟨by (with_reducible repeat (first | refine kN ?_ _ | refine kD ?_ | refine kA ?_ _)); refine kR ?_ NB123_148.out _; (with_reducible repeat (first | refine kN ?_ _ | refine kD ?_ | refine kA ?_ _)); refine kR ?_ NB123_148.out _; (with_reducible repeat (first | refine kN ?_ _ | refine kD ?_ | refine kA ?_ _)); refine kR ?_ NB123_148.out _; (with_reducible repeat (first | refine kN ?_ _ | refine kD ?_ | refine kA ?_ _)); refine kR ?_ NB123_148.out _; (with_reducible repeat (first | refine kN ?_ _ | refine kD ?_ | refine kA ?_ _)); refine kR ?_ NB123_148.out _; (with_reducible repeat (first | refine kN ?_ _ | refine kD ?_ | refine kA ?_ _)); refine kR ?_ NB123_148.out _; (with_reducible repeat (first | refine kN ?_ _ | refine kD ?_ | refine kA ?_ _)); refine kR ?_ NB123_148.out _; (with_reducible repeat (first | refine kN ?_ _ | refine kD ?_ | refine kA ?_ _)); exact BK123.out⟩
            have n1_ : Aside0 ((((((((w66.setCell ⟨gb148, 0, none⟩ (.int .u8 t124)).setCell ⟨gb148, 1, none⟩ (.int .i64 t125)).setCell ⟨gb148, 2, none⟩ (.int .i64 t126)).setCell ⟨gb148, 3, none⟩ (.int .i64 t127)).setCell ⟨gb148, 4, none⟩ (.int .i64 t128)).setCell ⟨gb148, 5, none⟩ (.int .u8 0)).setCell ⟨gb148, 5, none⟩ (.int .u8 a1)).heap[gb140]? = some (.cells #[.int .u8 t134, .int .i64 t135, .int .i64 t136, .int .i64 t137, .int .i64 t138, .int .u8 t139] 23 (0, 0))) := ⟨by (with_reducible repeat (first | refine kN ?_ _ | refine kD ?_ | refine kA ?_ _)); refine kR ?_ NB140_148.out _; (with_reducible repeat (first | refine kN ?_ _ | refine kD ?_ | refine kA ?_ _)); refine kR ?_ NB140_148.out _; (with_reducible repeat (first | refine kN ?_ _ | refine kD ?_ | refine kA ?_ _)); refine kR ?_ NB140_148.out _; (with_reducible repeat (first | refine kN ?_ _ | refine kD ?_ | refine kA ?_ _)); refine kR ?_ NB140_148.out _; (with_reducible repeat (first | refine kN ?_ _ | refine kD ?_ | refine kA ?_ _)); refine kR ?_ NB140_148.out _; (with_reducible repeat (first | refine kN ?_ _ | refine kD ?_ | refine kA ?_ _)); refine kR ?_ NB140_148.out _; (with_reducible repeat (first | refine kN ?_ _ | refine kD ?_ | refine kA ?_ _)); refine kR ?_ NB140_148.out _; (with_reducible repeat (first | refine kN ?_ _ | refine kD ?_ | refine kA ?_ _)); exact BK140.out⟩
            have n2_ : Aside0 ((((((((w66.setCell ⟨gb148, 0, none⟩ (.int .u8 t124)).setCell ⟨gb148, 1, none⟩ (.int .i64 t125)).setCell ⟨gb148, 2, none⟩ (.int .i64 t126)).setCell ⟨gb148, 3, none⟩ (.int .i64 t127)).setCell ⟨gb148, 4, none⟩ (.int .i64 t128)).setCell ⟨gb148, 5, none⟩ (.int .u8 0)).setCell ⟨gb148, 5, none⟩ (.int .u8 a1)).heap[gb147]? = some (.cells #[.int .u8 t141, .int .i64 t142, .int .i64 t143, .int .i64 t144, .int .i64 t145, .int .u8 t146] 23 (0, 0))) := ⟨by (with_reducible repeat (first | refine kN ?_ _ | refine kD ?_ | refine kA ?_ _)); refine kR ?_ NB147_148.out _; (with_reducible repeat (first | refine kN ?_ _ | refine kD ?_ | refine kA ?_ _)); refine kR ?_ NB147_148.out _; (with_reducible repeat (first | refine kN ?_ _ | refine kD ?_ | refine kA ?_ _)); refine kR ?_ NB147_148.out _; (with_reducible repeat (first | refine kN ?_ _ | refine kD ?_ | refine kA ?_ _)); refine kR ?_ NB147_148.out _; (with_reducible repeat (first | refine kN ?_ _ | refine kD ?_ | refine kA ?_ _)); refine kR ?_ NB147_148.out _; (with_reducible repeat (first | refine kN ?_ _ | refine kD ?_ | refine kA ?_ _)); refine kR ?_ NB147_148.out _; (with_reducible repeat (first | refine kN ?_ _ | refine kD ?_ | refine kA ?_ _)); refine kR ?_ NB147_148.out _; (with_reducible repeat (first | refine kN ?_ _ | refine kD ?_ | refine kA ?_ _)); exact BK147.out⟩
            have n3_ : Aside0 ((((((((w66.setCell ⟨gb148, 0, none⟩ (.int .u8 t124)).setCell ⟨gb148, 1, none⟩ (.int .i64 t125)).setCell ⟨gb148, 2, none⟩ (.int .i64 t126)).setCell ⟨gb148, 3, none⟩ (.int .i64 t127)).setCell ⟨gb148, 4, none⟩ (.int .i64 t128)).setCell ⟨gb148, 5, none⟩ (.int .u8 0)).setCell ⟨gb148, 5, none⟩ (.int .u8 a1)).heap[gb148]? = some (.cells #[.int .u8 t124, .int .i64 t125, .int .i64 t126, .int .i64 t127, .int .i64 t128, .int .u8 a1] 23 (0, 0))) := ⟨by (with_reducible repeat (first | refine kN ?_ _ | refine kD ?_ | refine kA ?_ _)); refine kP (cs := #[.int .u8 t124, .int .i64 t125, .int .i64 t126, .int .i64 t127, .int .i64 t128, .int .u8 0]) ?_ 5 _ rfl; (with_reducible repeat (first | refine kN ?_ _ | refine kD ?_ | refine kA ?_ _)); refine kP (cs := #[.int .u8 t124, .int .i64 t125, .int .i64 t126, .int .i64 t127, .int .i64 t128, .int .u8 0]) ?_ 5 _ rfl; (with_reducible repeat (first | refine kN ?_ _ | refine kD ?_ | refine kA ?_ _)); refine kP (cs := #[.int .u8 t124, .int .i64 t125, .int .i64 t126, .int .i64 t127, .int .i64 0, .int .u8 0]) ?_ 4 _ rfl; (with_reducible repeat (first | refine kN ?_ _ | refine kD ?_ | refine kA ?_ _)); refine kP (cs := #[.int .u8 t124, .int .i64 t125, .int .i64 t126, .int .i64 0, .int .i64 0, .int .u8 0]) ?_ 3 _ rfl; (with_reducible repeat (first | refine kN ?_ _ | refine kD ?_ | refine kA ?_ _)); refine kP (cs := #[.int .u8 t124, .int .i64 t125, .int .i64 0, .int .i64 0, .int .i64 0, .int .u8 0]) ?_ 2 _ rfl; (with_reducible repeat (first | refine kN ?_ _ | refine kD ?_ | refine kA ?_ _)); refine kP (cs := #[.int .u8 t124, .int .i64 0, .int .i64 0, .int .i64 0, .int .i64 0, .int .u8 0]) ?_ 1 _ rfl; (with_reducible repeat (first | refine kN ?_ _ | refine kD ?_ | refine kA ?_ _)); refine kP (cs := #[.int .u8 0, .int .i64 0, .int .i64 0, .int .i64 0, .int .i64 0, .int .u8 0]) ?_ 0 _ rfl; (with_reducible repeat (first | refine kN ?_ _ | refine kD ?_ | refine kA ?_ _)); exact BK148.out⟩
            have n4_ : Aside0 (Below w.heap.size w (((((((w66.setCell ⟨gb148, 0, none⟩ (.int .u8 t124)).setCell ⟨gb148, 1, none⟩ (.int .i64 t125)).setCell ⟨gb148, 2, none⟩ (.int .i64 t126)).setCell ⟨gb148, 3, none⟩ (.int .i64 t127)).setCell ⟨gb148, 4, none⟩ (.int .i64 t128)).setCell ⟨gb148, 5, none⟩ (.int .u8 0)).setCell ⟨gb148, 5, none⟩ (.int .u8 a1))) := ⟨by repeat (first | (with_reducible first | exact HB.out | apply kL | apply kM | apply kE | refine kS ?_ GE123.out | refine kS ?_ GE140.out | refine kS ?_ GE147.out | refine kS ?_ GE148.out) | exact HB.out)⟩
            (try clear BK123)
            (try clear BK140)
            (try clear BK147)
            (try clear BK148)
            (try clear HB)
            generalize (((((((w66.setCell ⟨gb148, 0, none⟩ (.int .u8 t124)).setCell ⟨gb148, 1, none⟩ (.int .i64 t125)).setCell ⟨gb148, 2, none⟩ (.int .i64 t126)).setCell ⟨gb148, 3, none⟩ (.int .i64 t127)).setCell ⟨gb148, 4, none⟩ (.int .i64 t128)).setCell ⟨gb148, 5, none⟩ (.int .u8 0)).setCell ⟨gb148, 5, none⟩ (.int .u8 a1)) = w71 at n0_ n1_ n2_ n3_ n4_ ⊢
            have BK123 := n0_
            have BK140 := n1_
            have BK147 := n2_
            have BK148 := n3_
            have HB := n4_
            clear n0_ n1_ n2_ n3_ n4_
            have n0_ := Aside0.mk (kD BK123.out)
            have n1_ := Aside0.mk (kD BK140.out)
            have n2_ := Aside0.mk (kD BK147.out)
            have n3_ := Aside0.mk (kD BK148.out)
            have n4_ := Aside0.mk (kE HB.out)
            clear BK123
            clear BK140
            clear BK147
            clear BK148
            clear HB
            have BK123 := n0_
            have BK140 := n1_
            have BK147 := n2_
            have BK148 := n3_
            have HB := n4_
            clear n0_ n1_ n2_ n3_ n4_
            refine start_ (n := 32) (S := fun w' => True) (ds := []) #[F,F,F,F,F,F,F,F,F,F,F,F,F,F,F,F,F,F,F,F,F,F,F,F,F,F,F,F,F,F,F,F] (by kernel_rfl) rfl rfl trivial (fun hHeld => ?_); refine with_tabW paybooklaw11_NoticeParties.tab10 paybooklaw11_NoticeParties.bits10 (fun HT_ HW_ => ?_)
            generalize w71.drew = w72 at BK123 BK140 BK147 BK148 HB hHeld ⊢
            refine inv_at [0, 1, 2, 3, 4, 5, 6, 7, 8, 9, 10, 11, 12, 13, 14, 15, 16, 17, 18, 19, 20, 21, 22, 23, 24, 25, 26, 27, 28, 29, 30, 31] (fun a0_ b a w' => ∃ (v158 : Value) (adz_v158 : Addr) (m9_ : Value), a = putSel a0_ b [(0, 29, .bool true), (1, 30, .bool true), (2, 31, .agg #[.int .u8 t124, .int .i64 t125, .int .i64 t126, .int .i64 t127, .int .i64 t128, .int .u8 0]), (3, 32, .agg #[.int .u8 t150, .int .i64 t151, .int .i64 t152, .int .i64 t153, .int .i64 t154, .int .u8 t155]), (4, 33, .int .u8 t156), (5, 34, v158), (6, 35, .pointer (some ⟨gb123, 0, none⟩)), (7, 36, .int .u8 t124), (8, 37, .int .u8 ji4), (9, 38, m9_), (10, 39, .int .u8 (rd y157 (ji4))), (11, 40, .bool (t156 == (rd y157 (ji4)))), (12, 41, .bool (t156 == (rd y157 (ji4)))), (13, 42, .bool (t156 == (rd y157 (ji4)))), (14, 43, .agg #[.int .u8 t134, .int .i64 t135, .int .i64 t136, .int .i64 t137, .int .i64 t138, .int .u8 t139]), (15, 44, .agg #[.int .u8 t124, .int .i64 t125, .int .i64 t126, .int .i64 t127, .int .i64 t128, .int .u8 a1]), (16, 45, .bool (t134 == t124 && (t135 == t125 && (t136 == t126 && (t137 == t127 && (t138 == t128 && (t139 == a1))))))), (17, 46, .bool (t134 == t124 && (t135 == t125 && (t136 == t126 && (t137 == t127 && (t138 == t128 && (t139 == a1))))))), (18, 47, .bool (t134 == t124 && (t135 == t125 && (t136 == t126 && (t137 == t127 && (t138 == t128 && (t139 == a1))))))), (19, 48, .agg #[.int .u8 t141, .int .i64 t142, .int .i64 t143, .int .i64 t144, .int .i64 t145, .int .u8 t146]), (20, 49, .agg #[.int .u8 t124, .int .i64 t125, .int .i64 t126, .int .i64 t127, .int .i64 t128, .int .u8 0]), (21, 50, .bool (t141 == t124 && (t142 == t125 && (t143 == t126 && (t144 == t127 && (t145 == t128 && (t146 == 0))))))), (22, 51, .bool (t141 == t124 && (t142 == t125 && (t143 == t126 && (t144 == t127 && (t145 == t128 && (t146 == 0))))))), (23, 52, .bool (t141 == t124 && (t142 == t125 && (t143 == t126 && (t144 == t127 && (t145 == t128 && (t146 == 0))))))), (24, 53, .int .u8 x5_6), (25, 54, .bool (decide (x5_6 < 3))), (26, 55, .bool (decide (x5_6 < 3))), (27, 56, .int .u8 x5_6), (28, 57, .bool (x5_6 == 3)), (29, 58, .bool (x5_6 == 3)), (30, 59, .bool (x5_6 == 3)), (31, 4, .bool (x5_6 == 3))] ∧ (w'.heap[gb123]? = some (.cells #[.int .u8 t124, .int .i64 t125, .int .i64 t126, .int .i64 t127, .int .i64 t128, .int .u8 0] 23 (0, 0))) ∧ (w'.heap[gb140]? = some (.cells #[.int .u8 t134, .int .i64 t135, .int .i64 t136, .int .i64 t137, .int .i64 t138, .int .u8 t139] 23 (0, 0))) ∧ (w'.heap[gb147]? = some (.cells #[.int .u8 t141, .int .i64 t142, .int .i64 t143, .int .i64 t144, .int .i64 t145, .int .u8 t146] 23 (0, 0))) ∧ (w'.heap[gb148]? = some (.cells #[.int .u8 t124, .int .i64 t125, .int .i64 t126, .int .i64 t127, .int .i64 t128, .int .u8 a1] 23 (0, 0))) ∧ (Below w.heap.size w w') ∧ (b 5 = true → Kd.R (Kd.int .u8) 5 w' w.heap.size (fun _ => True) v158 y157) ∧ (b 5 = true → ∃ c_, (v158 : Value) = .slice (some adz_v158) y157.length c_) ∧ (b 9 = true → (m9_ : Value) = .pointer (some (adz_v158.add ((ji4)).toNat)))) HT_.out HW_.out (by kernel_rfl) (by kernel_rfl) ?_ ?_ ?_
            ·exact ⟨.bool false, ⟨0, 0, none⟩, .bool false, by simp only [putSel, Bool.false_eq_true, if_false], BK123.out, BK140.out, BK147.out, BK148.out, HB.out, fun h_ => absurd h_ (by decide), fun h_ => absurd h_ (by decide), fun h_ => absurd h_ (by decide)⟩
            ·skip
             clear BK123 BK140 BK147 BK148 HB
             refine steps_cons ?_ ?_
             ·rintro b a w' ⟨v158, adz_v158, m9_, ha, Q_BK123, Q_BK140, Q_BK147, Q_BK148, Q_HB, Q_HO159, Q_HA_HO159, Q_X9_⟩ hb_ hon hoff
              refine ⟨_, rfl, fun K hK => ?_⟩
              replace ha := Aside0.mk ha
              have BK123 := Aside0.mk Q_BK123
              have BK140 := Aside0.mk Q_BK140
              have BK147 := Aside0.mk Q_BK147
              have BK148 := Aside0.mk Q_BK148
              have HB := Aside0.mk Q_HB
              refine goes_ Try.func8 (by kernel_rfl) rfl #[] (by rfl) rfl rfl (by first | (simp only [List.map_toArray, List.map_cons, List.map_nil, Act.eval, Array.getD_eq_getD_getElem?, Option.getD_some]; done) | (simp only [List.map_toArray, List.map_cons, List.map_nil, Act.eval, Array.getD_eq_getD_getElem?, Option.getD_some]; rfl)) ?_
              with_reducible refine (paybooklaw11_awake.calls kj6  true _ A19.out).mono ?_
              rintro e w73 ⟨rfl, hb⟩
              refine ⟨_, rfl, ?_⟩
              have n0_ := Aside0.mk (blk_below (g := gb123) (o := .cells #[.int .u8 t124, .int .i64 t125, .int .i64 t126, .int .i64 t127, .int .i64 t128, .int .u8 0] 23 (0, 0)) (by (with_reducible repeat (first | refine kN ?_ _ | refine kD ?_ | refine kA ?_ _)); exact BK123.out) hb)
              have n1_ := Aside0.mk (blk_below (g := gb140) (o := .cells #[.int .u8 t134, .int .i64 t135, .int .i64 t136, .int .i64 t137, .int .i64 t138, .int .u8 t139] 23 (0, 0)) (by (with_reducible repeat (first | refine kN ?_ _ | refine kD ?_ | refine kA ?_ _)); exact BK140.out) hb)
              have n2_ := Aside0.mk (blk_below (g := gb147) (o := .cells #[.int .u8 t141, .int .i64 t142, .int .i64 t143, .int .i64 t144, .int .i64 t145, .int .u8 t146] 23 (0, 0)) (by (with_reducible repeat (first | refine kN ?_ _ | refine kD ?_ | refine kA ?_ _)); exact BK147.out) hb)
              have n3_ := Aside0.mk (blk_below (g := gb148) (o := .cells #[.int .u8 t124, .int .i64 t125, .int .i64 t126, .int .i64 t127, .int .i64 t128, .int .u8 a1] 23 (0, 0)) (by (with_reducible repeat (first | refine kN ?_ _ | refine kD ?_ | refine kA ?_ _)); exact BK148.out) hb)
              have n4_ := Aside0.mk (below_step (by repeat (first | (with_reducible first | exact HB.out | apply kL | apply kM | apply kE | refine kS ?_ GE123.out | refine kS ?_ GE140.out | refine kS ?_ GE147.out | refine kS ?_ GE148.out) | exact HB.out)) hb)
              clear BK123
              clear BK140
              clear BK147
              clear BK148
              clear HB
              have BK123 := n0_
              have BK140 := n1_
              have BK147 := n2_
              have BK148 := n3_
              have HB := n4_
              clear n0_ n1_ n2_ n3_ n4_
              (try clear hb)
              (try clear hb2)
              (try clear hk)
              (try clear hi)
              refine hK.out _ _ ⟨v158, adz_v158, m9_, (by rw [ha.out]; exact putSel_upk 0 hb_ rfl rfl rfl), (by (with_reducible repeat (first | refine kN ?_ _ | refine kD ?_ | refine kA ?_ _)); exact BK123.out), (by (with_reducible repeat (first | refine kN ?_ _ | refine kD ?_ | refine kA ?_ _)); exact BK140.out), (by (with_reducible repeat (first | refine kN ?_ _ | refine kD ?_ | refine kA ?_ _)); exact BK147.out), (by (with_reducible repeat (first | refine kN ?_ _ | refine kD ?_ | refine kA ?_ _)); exact BK148.out), (by repeat (first | (with_reducible first | exact HB.out | apply kL | apply kM | apply kE | refine kS ?_ GE123.out | refine kS ?_ GE140.out | refine kS ?_ GE147.out | refine kS ?_ GE148.out) | exact HB.out)), fun h0_ => absurd ((hoff 5 (by kernel_rfl)).symm.trans h0_) (by decide), fun h0_ => absurd ((hoff 5 (by kernel_rfl)).symm.trans h0_) (by decide), fun h0_ => absurd ((hoff 9 (by kernel_rfl)).symm.trans h0_) (by decide)⟩
             refine steps_cons ?_ ?_
             ·rintro b a w' ⟨v158, adz_v158, m9_, ha, Q_BK123, Q_BK140, Q_BK147, Q_BK148, Q_HB, Q_HO159, Q_HA_HO159, Q_X9_⟩ hb_ hon hoff
              refine ⟨_, rfl, fun K hK => ?_⟩
              have e29 : a.tmps[29]? = some (.bool true) := by rw [ha]; exact putSel_on (e := (0, 29, .bool true)) 0 rfl rfl (hon 0 (by kernel_rfl)) rfl
              replace ha := Aside0.mk ha
              have BK123 := Aside0.mk Q_BK123
              have BK140 := Aside0.mk Q_BK140
              have BK147 := Aside0.mk Q_BK147
              have BK148 := Aside0.mk Q_BK148
              have HB := Aside0.mk Q_HB
              refine value_ (w1 := w') (v := .bool true) (by rfl) rfl ?_ ?_
              ·go_simp
               (try simp only [i64_w])
               try rfl
              refine hK.out _ _ ⟨v158, adz_v158, m9_, (by rw [ha.out]; exact putSel_upk 1 hb_ rfl rfl rfl), Q_BK123, Q_BK140, Q_BK147, Q_BK148, Q_HB, fun h0_ => absurd ((hoff 5 (by kernel_rfl)).symm.trans h0_) (by decide), fun h0_ => absurd ((hoff 5 (by kernel_rfl)).symm.trans h0_) (by decide), fun h0_ => absurd ((hoff 9 (by kernel_rfl)).symm.trans h0_) (by decide)⟩
             refine steps_cons ?_ ?_
             ·rintro b a w' ⟨v158, adz_v158, m9_, ha, Q_BK123, Q_BK140, Q_BK147, Q_BK148, Q_HB, Q_HO159, Q_HA_HO159, Q_X9_⟩ hb_ hon hoff
              refine ⟨_, rfl, fun K hK => ?_⟩
              have e2 : a.tmps[2]? = some (.pointer (some ⟨gb123, 0, none⟩)) := by rw [ha]; exact (putSel_off rfl).trans rfl
              have e30 : a.tmps[30]? = some (.bool true) := by rw [ha]; exact putSel_on (e := (1, 30, .bool true)) 1 rfl rfl (hon 1 (by kernel_rfl)) rfl
              replace ha := Aside0.mk ha
              have BK123 := Aside0.mk Q_BK123
              have BK140 := Aside0.mk Q_BK140
              have BK147 := Aside0.mk Q_BK147
              have BK148 := Aside0.mk Q_BK148
              have HB := Aside0.mk Q_HB
              have hc0_ : w'.cell? ⟨gb123, 0, none⟩ = some (.int .u8 t124) := (kC BK123.out 0).trans rfl
              have hc1_ : w'.cell? ⟨gb123, 1, none⟩ = some (.int .i64 t125) := (kC BK123.out 1).trans rfl
              have hc2_ : w'.cell? ⟨gb123, 2, none⟩ = some (.int .i64 t126) := (kC BK123.out 2).trans rfl
              have hc3_ : w'.cell? ⟨gb123, 3, none⟩ = some (.int .i64 t127) := (kC BK123.out 3).trans rfl
              have hc4_ : w'.cell? ⟨gb123, 4, none⟩ = some (.int .i64 t128) := (kC BK123.out 4).trans rfl
              have hc5_ : w'.cell? ⟨gb123, 5, none⟩ = some (.int .u8 0) := (kC BK123.out 5).trans rfl
              refine value_ (w1 := w') (v := .agg #[.int .u8 t124, .int .i64 t125, .int .i64 t126, .int .i64 t127, .int .i64 t128, .int .u8 0]) (wanted_on rfl rfl rfl (e30.trans (by first | rfl | (simp [*]; done)))) rfl ?_ ?_
              ·go_simp
               (try simp only [i64_w])
               try rfl
              refine hK.out _ _ ⟨v158, adz_v158, m9_, (by rw [ha.out]; exact putSel_upk 2 hb_ rfl rfl rfl), Q_BK123, Q_BK140, Q_BK147, Q_BK148, Q_HB, Q_HO159, Q_HA_HO159, Q_X9_⟩
             refine steps_cons ?_ ?_
             ·rintro b a w' ⟨v158, adz_v158, m9_, ha, Q_BK123, Q_BK140, Q_BK147, Q_BK148, Q_HB, Q_HO159, Q_HA_HO159, Q_X9_⟩ hb_ hon hoff
              refine ⟨_, rfl, fun K hK => ?_⟩
              have e31 : a.tmps[31]? = some (.agg #[.int .u8 t124, .int .i64 t125, .int .i64 t126, .int .i64 t127, .int .i64 t128, .int .u8 0]) := by rw [ha]; exact putSel_on (e := (2, 31, .agg #[.int .u8 t124, .int .i64 t125, .int .i64 t126, .int .i64 t127, .int .i64 t128, .int .u8 0])) 2 rfl rfl (hon 2 (by kernel_rfl)) rfl
              have e30 : a.tmps[30]? = some (.bool true) := by rw [ha]; exact putSel_on (e := (1, 30, .bool true)) 1 rfl rfl (hon 1 (by kernel_rfl)) rfl
              replace ha := Aside0.mk ha
              have BK123 := Aside0.mk Q_BK123
              have BK140 := Aside0.mk Q_BK140
              have BK147 := Aside0.mk Q_BK147
              have BK148 := Aside0.mk Q_BK148
              have HB := Aside0.mk Q_HB
              refine goes_ Try.func7 (by kernel_rfl) rfl #[.agg #[.int .u8 t124, .int .i64 t125, .int .i64 t126, .int .i64 t127, .int .i64 t128, .int .u8 0]] (wanted_on rfl rfl rfl (e30.trans (by first | rfl | (simp [*]; done)))) rfl rfl (by first | (simp only [List.map_toArray, List.map_cons, List.map_nil, Act.eval, Array.getD_eq_getD_getElem?, Option.getD_some, e31, e30]; done) | (simp only [List.map_toArray, List.map_cons, List.map_nil, Act.eval, Array.getD_eq_getD_getElem?, Option.getD_some, e31, e30]; rfl)) ?_
              with_reducible refine (notice_Asked.calls t124 t125 t126 t127 t128 0 t150 t151 t152 t153 t154 t155 _ A21.out).mono ?_
              rintro e w75 ⟨rfl, hb⟩
              refine ⟨_, rfl, ?_⟩
              have n0_ := Aside0.mk (blk_below (g := gb123) (o := .cells #[.int .u8 t124, .int .i64 t125, .int .i64 t126, .int .i64 t127, .int .i64 t128, .int .u8 0] 23 (0, 0)) (by (with_reducible repeat (first | refine kN ?_ _ | refine kD ?_ | refine kA ?_ _)); exact BK123.out) hb)
              have n1_ := Aside0.mk (blk_below (g := gb140) (o := .cells #[.int .u8 t134, .int .i64 t135, .int .i64 t136, .int .i64 t137, .int .i64 t138, .int .u8 t139] 23 (0, 0)) (by (with_reducible repeat (first | refine kN ?_ _ | refine kD ?_ | refine kA ?_ _)); exact BK140.out) hb)
              have n2_ := Aside0.mk (blk_below (g := gb147) (o := .cells #[.int .u8 t141, .int .i64 t142, .int .i64 t143, .int .i64 t144, .int .i64 t145, .int .u8 t146] 23 (0, 0)) (by (with_reducible repeat (first | refine kN ?_ _ | refine kD ?_ | refine kA ?_ _)); exact BK147.out) hb)
              have n3_ := Aside0.mk (blk_below (g := gb148) (o := .cells #[.int .u8 t124, .int .i64 t125, .int .i64 t126, .int .i64 t127, .int .i64 t128, .int .u8 a1] 23 (0, 0)) (by (with_reducible repeat (first | refine kN ?_ _ | refine kD ?_ | refine kA ?_ _)); exact BK148.out) hb)
              have n4_ := Aside0.mk (below_step (by repeat (first | (with_reducible first | exact HB.out | apply kL | apply kM | apply kE | refine kS ?_ GE123.out | refine kS ?_ GE140.out | refine kS ?_ GE147.out | refine kS ?_ GE148.out) | exact HB.out)) hb)
              have z_HO159 := fun (h0_ : b 5 = true) => (show Kd.R (Kd.int .u8) 5 w75 w.heap.size (fun _ => True) v158 y157 from by first | exact (Kd.R_below (by (with_reducible repeat (first | apply Kd.R_alloc | apply Kd.R_drewN | apply Kd.R_drew)); exact (Q_HO159 h0_)) hb) | exact Kd.R_mono (Kd.R_below (by (with_reducible repeat (first | apply Kd.R_alloc | apply Kd.R_drewN | apply Kd.R_drew)); exact (Q_HO159 h0_)) hb) (fun _ h_ => by first | trivial | exact h_ | exact h_.1))
              clear BK123
              clear BK140
              clear BK147
              clear BK148
              clear HB
              have BK123 := n0_
              have BK140 := n1_
              have BK147 := n2_
              have BK148 := n3_
              have HB := n4_
              clear n0_ n1_ n2_ n3_ n4_
              (try clear hb)
              (try clear hb2)
              (try clear hk)
              (try clear hi)
              refine hK.out _ _ ⟨v158, adz_v158, m9_, (by rw [ha.out]; exact putSel_upk 3 hb_ rfl rfl rfl), (by (with_reducible repeat (first | refine kN ?_ _ | refine kD ?_ | refine kA ?_ _)); exact BK123.out), (by (with_reducible repeat (first | refine kN ?_ _ | refine kD ?_ | refine kA ?_ _)); exact BK140.out), (by (with_reducible repeat (first | refine kN ?_ _ | refine kD ?_ | refine kA ?_ _)); exact BK147.out), (by (with_reducible repeat (first | refine kN ?_ _ | refine kD ?_ | refine kA ?_ _)); exact BK148.out), (by repeat (first | (with_reducible first | exact HB.out | apply kL | apply kM | apply kE | refine kS ?_ GE123.out | refine kS ?_ GE140.out | refine kS ?_ GE147.out | refine kS ?_ GE148.out) | exact HB.out)), z_HO159, Q_HA_HO159, Q_X9_⟩
             refine steps_cons ?_ ?_
             ·rintro b a w' ⟨v158, adz_v158, m9_, ha, Q_BK123, Q_BK140, Q_BK147, Q_BK148, Q_HB, Q_HO159, Q_HA_HO159, Q_X9_⟩ hb_ hon hoff
              refine ⟨_, rfl, fun K hK => ?_⟩
              have e32 : a.tmps[32]? = some (.agg #[.int .u8 t150, .int .i64 t151, .int .i64 t152, .int .i64 t153, .int .i64 t154, .int .u8 t155]) := by rw [ha]; exact putSel_on (e := (3, 32, .agg #[.int .u8 t150, .int .i64 t151, .int .i64 t152, .int .i64 t153, .int .i64 t154, .int .u8 t155])) 3 rfl rfl (hon 3 (by kernel_rfl)) rfl
              have e30 : a.tmps[30]? = some (.bool true) := by rw [ha]; exact putSel_on (e := (1, 30, .bool true)) 1 rfl rfl (hon 1 (by kernel_rfl)) rfl
              replace ha := Aside0.mk ha
              have BK123 := Aside0.mk Q_BK123
              have BK140 := Aside0.mk Q_BK140
              have BK147 := Aside0.mk Q_BK147
              have BK148 := Aside0.mk Q_BK148
              have HB := Aside0.mk Q_HB
              refine goes_ Try.func9 (by kernel_rfl) rfl #[.agg #[.int .u8 t150, .int .i64 t151, .int .i64 t152, .int .i64 t153, .int .i64 t154, .int .u8 t155]] (wanted_on rfl rfl rfl (e30.trans (by first | rfl | (simp [*]; done)))) rfl rfl (by first | (simp only [List.map_toArray, List.map_cons, List.map_nil, Act.eval, Array.getD_eq_getD_getElem?, Option.getD_some, e32, e30]; done) | (simp only [List.map_toArray, List.map_cons, List.map_nil, Act.eval, Array.getD_eq_getD_getElem?, Option.getD_some, e32, e30]; rfl)) ?_
              with_reducible refine (notice_Party.calls kj6 t150 t151 t152 t153 t154 t155 t156 _ A22.out).mono ?_
              rintro e w76 ⟨rfl, hb⟩
              refine ⟨_, rfl, ?_⟩
              have n0_ := Aside0.mk (blk_below (g := gb123) (o := .cells #[.int .u8 t124, .int .i64 t125, .int .i64 t126, .int .i64 t127, .int .i64 t128, .int .u8 0] 23 (0, 0)) (by (with_reducible repeat (first | refine kN ?_ _ | refine kD ?_ | refine kA ?_ _)); exact BK123.out) hb)
              have n1_ := Aside0.mk (blk_below (g := gb140) (o := .cells #[.int .u8 t134, .int .i64 t135, .int .i64 t136, .int .i64 t137, .int .i64 t138, .int .u8 t139] 23 (0, 0)) (by (with_reducible repeat (first | refine kN ?_ _ | refine kD ?_ | refine kA ?_ _)); exact BK140.out) hb)
              have n2_ := Aside0.mk (blk_below (g := gb147) (o := .cells #[.int .u8 t141, .int .i64 t142, .int .i64 t143, .int .i64 t144, .int .i64 t145, .int .u8 t146] 23 (0, 0)) (by (with_reducible repeat (first | refine kN ?_ _ | refine kD ?_ | refine kA ?_ _)); exact BK147.out) hb)
              have n3_ := Aside0.mk (blk_below (g := gb148) (o := .cells #[.int .u8 t124, .int .i64 t125, .int .i64 t126, .int .i64 t127, .int .i64 t128, .int .u8 a1] 23 (0, 0)) (by (with_reducible repeat (first | refine kN ?_ _ | refine kD ?_ | refine kA ?_ _)); exact BK148.out) hb)
              have n4_ := Aside0.mk (below_step (by repeat (first | (with_reducible first | exact HB.out | apply kL | apply kM | apply kE | refine kS ?_ GE123.out | refine kS ?_ GE140.out | refine kS ?_ GE147.out | refine kS ?_ GE148.out) | exact HB.out)) hb)
              have z_HO159 := fun (h0_ : b 5 = true) => (show Kd.R (Kd.int .u8) 5 w76 w.heap.size (fun _ => True) v158 y157 from by first | exact (Kd.R_below (by (with_reducible repeat (first | apply Kd.R_alloc | apply Kd.R_drewN | apply Kd.R_drew)); exact (Q_HO159 h0_)) hb) | exact Kd.R_mono (Kd.R_below (by (with_reducible repeat (first | apply Kd.R_alloc | apply Kd.R_drewN | apply Kd.R_drew)); exact (Q_HO159 h0_)) hb) (fun _ h_ => by first | trivial | exact h_ | exact h_.1))
              clear BK123
              clear BK140
              clear BK147
              clear BK148
              clear HB
              have BK123 := n0_
              have BK140 := n1_
              have BK147 := n2_
              have BK148 := n3_
              have HB := n4_
              clear n0_ n1_ n2_ n3_ n4_
              (try clear hb)
              (try clear hb2)
              (try clear hk)
              (try clear hi)
              refine hK.out _ _ ⟨v158, adz_v158, m9_, (by rw [ha.out]; exact putSel_upk 4 hb_ rfl rfl rfl), (by (with_reducible repeat (first | refine kN ?_ _ | refine kD ?_ | refine kA ?_ _)); exact BK123.out), (by (with_reducible repeat (first | refine kN ?_ _ | refine kD ?_ | refine kA ?_ _)); exact BK140.out), (by (with_reducible repeat (first | refine kN ?_ _ | refine kD ?_ | refine kA ?_ _)); exact BK147.out), (by (with_reducible repeat (first | refine kN ?_ _ | refine kD ?_ | refine kA ?_ _)); exact BK148.out), (by repeat (first | (with_reducible first | exact HB.out | apply kL | apply kM | apply kE | refine kS ?_ GE123.out | refine kS ?_ GE140.out | refine kS ?_ GE147.out | refine kS ?_ GE148.out) | exact HB.out)), z_HO159, Q_HA_HO159, Q_X9_⟩
             refine steps_cons ?_ ?_
             ·rintro b a w' ⟨v158, adz_v158, m9_, ha, Q_BK123, Q_BK140, Q_BK147, Q_BK148, Q_HB, Q_HO159, Q_HA_HO159, Q_X9_⟩ hb_ hon hoff
              refine ⟨_, rfl, fun K hK => ?_⟩
              have e30 : a.tmps[30]? = some (.bool true) := by rw [ha]; exact putSel_on (e := (1, 30, .bool true)) 1 rfl rfl (hon 1 (by kernel_rfl)) rfl
              replace ha := Aside0.mk ha
              have BK123 := Aside0.mk Q_BK123
              have BK140 := Aside0.mk Q_BK140
              have BK147 := Aside0.mk Q_BK147
              have BK148 := Aside0.mk Q_BK148
              have HB := Aside0.mk Q_HB
              refine Kd.R_lit_step (Kd.int .u8) _ 5 ?hg (N := 34) ?hd (xs := ([0, 0, 1, 1, 2] : List Int)) (inner := [.int .u8 0, .int .u8 0, .int .u8 1, .int .u8 1, .int .u8 2]) (ok := fun _ => True) (okp := fun _ => True) ?hr ?hp (fun _ hk => hk) trivial (Below.refl _ _) (Nat.le_refl _) (by simp) ?_; (case hd => rfl); (case hg => exact (wanted_on rfl rfl rfl (e30.trans (by first | rfl | (simp [*]; done))))); (case hr => first | (go_simp; done) | (go_simp; rfl)); (case hp => exact (Reps.one (show Kd.M (Kd.int .u8) _ _ _ 0 [.int .u8 0] from rfl) (Reps.one (show Kd.M (Kd.int .u8) _ _ _ 0 [.int .u8 0] from rfl) (Reps.one (show Kd.M (Kd.int .u8) _ _ _ 1 [.int .u8 1] from rfl) (Reps.one (show Kd.M (Kd.int .u8) _ _ _ 1 [.int .u8 1] from rfl) (Reps.one (show Kd.M (Kd.int .u8) _ _ _ 2 [.int .u8 2] from rfl) (Reps.none _ _)))))))
              intro v158 w75 ho76 hb hg_ hnew_
              clear hg_ hnew_
              (first | rw [← Ny157.out] at ho76 | (simp only [Int.reduceToNat] at ho76; rw [← Ny157.out] at ho76))
              have n0_ := Aside0.mk (Kd.R_lower ho76 (below_size (by repeat (first | (with_reducible first | exact HB.out | apply kL | apply kM | apply kE | refine kS ?_ GE123.out | refine kS ?_ GE140.out | refine kS ?_ GE147.out | refine kS ?_ GE148.out) | exact HB.out))))
              have n1_ := Aside0.mk (blk_below (g := gb123) (o := .cells #[.int .u8 t124, .int .i64 t125, .int .i64 t126, .int .i64 t127, .int .i64 t128, .int .u8 0] 23 (0, 0)) (by (with_reducible repeat (first | refine kN ?_ _ | refine kD ?_ | refine kA ?_ _)); exact BK123.out) hb)
              have n2_ := Aside0.mk (blk_below (g := gb140) (o := .cells #[.int .u8 t134, .int .i64 t135, .int .i64 t136, .int .i64 t137, .int .i64 t138, .int .u8 t139] 23 (0, 0)) (by (with_reducible repeat (first | refine kN ?_ _ | refine kD ?_ | refine kA ?_ _)); exact BK140.out) hb)
              have n3_ := Aside0.mk (blk_below (g := gb147) (o := .cells #[.int .u8 t141, .int .i64 t142, .int .i64 t143, .int .i64 t144, .int .i64 t145, .int .u8 t146] 23 (0, 0)) (by (with_reducible repeat (first | refine kN ?_ _ | refine kD ?_ | refine kA ?_ _)); exact BK147.out) hb)
              have n4_ := Aside0.mk (blk_below (g := gb148) (o := .cells #[.int .u8 t124, .int .i64 t125, .int .i64 t126, .int .i64 t127, .int .i64 t128, .int .u8 a1] 23 (0, 0)) (by (with_reducible repeat (first | refine kN ?_ _ | refine kD ?_ | refine kA ?_ _)); exact BK148.out) hb)
              have n5_ := Aside0.mk (below_step (by repeat (first | (with_reducible first | exact HB.out | apply kL | apply kM | apply kE | refine kS ?_ GE123.out | refine kS ?_ GE140.out | refine kS ?_ GE147.out | refine kS ?_ GE148.out) | exact HB.out)) hb)
              clear BK123
              clear BK140
              clear BK147
              clear BK148
              clear HB
              have HO159 := n0_
              have BK123 := n1_
              have BK140 := n2_
              have BK147 := n3_
              have BK148 := n4_
              have HB := n5_
              clear n0_ n1_ n2_ n3_ n4_ n5_
              clear hb ho76
              obtain ⟨Ao77, co77, eo77⟩ := Kd.R_slice HO159.out
              subst eo77
              obtain ⟨ado77, fo77, _⟩ := Kd.at_int (Kd.R_reads' HO159.out).2.2 0 (by decide) (by rw [Ny157.out]; simp)
              cases fo77
              refine hK.out _ _ ⟨.slice (some ado77) y157.length co77, ado77, m9_, (by rw [ha.out]; exact putSel_upk 5 hb_ rfl rfl rfl), (by (with_reducible repeat (first | refine kN ?_ _ | refine kD ?_ | refine kA ?_ _)); exact BK123.out), (by (with_reducible repeat (first | refine kN ?_ _ | refine kD ?_ | refine kA ?_ _)); exact BK140.out), (by (with_reducible repeat (first | refine kN ?_ _ | refine kD ?_ | refine kA ?_ _)); exact BK147.out), (by (with_reducible repeat (first | refine kN ?_ _ | refine kD ?_ | refine kA ?_ _)); exact BK148.out), (by repeat (first | (with_reducible first | exact HB.out | apply kL | apply kM | apply kE | refine kS ?_ GE123.out | refine kS ?_ GE140.out | refine kS ?_ GE147.out | refine kS ?_ GE148.out) | exact HB.out)), fun _ => (by (with_reducible repeat (first | apply Kd.R_alloc | apply Kd.R_drewN | apply Kd.R_drew)); exact HO159.out), fun _ => ⟨_, rfl⟩, fun h0_ => absurd ((hoff 9 (by kernel_rfl)).symm.trans h0_) (by decide)⟩
             refine steps_cons ?_ ?_
             ·rintro b a w' ⟨v158, adz_v158, m9_, ha, Q_BK123, Q_BK140, Q_BK147, Q_BK148, Q_HB, Q_HO159, Q_HA_HO159, Q_X9_⟩ hb_ hon hoff
              refine ⟨_, rfl, fun K hK => ?_⟩
              have e2 : a.tmps[2]? = some (.pointer (some ⟨gb123, 0, none⟩)) := by rw [ha]; exact (putSel_off rfl).trans rfl
              have e30 : a.tmps[30]? = some (.bool true) := by rw [ha]; exact putSel_on (e := (1, 30, .bool true)) 1 rfl rfl (hon 1 (by kernel_rfl)) rfl
              replace ha := Aside0.mk ha
              have BK123 := Aside0.mk Q_BK123
              have BK140 := Aside0.mk Q_BK140
              have BK147 := Aside0.mk Q_BK147
              have BK148 := Aside0.mk Q_BK148
              have HB := Aside0.mk Q_HB
              refine value_ (w1 := w') (v := .pointer (some ⟨gb123, 0, none⟩)) (wanted_on rfl rfl rfl (e30.trans (by first | rfl | (simp [*]; done)))) rfl ?_ ?_
              ·go_simp
               (try simp only [i64_w])
               try rfl
              refine hK.out _ _ ⟨v158, adz_v158, m9_, (by rw [ha.out]; exact putSel_upk 6 hb_ rfl rfl rfl), Q_BK123, Q_BK140, Q_BK147, Q_BK148, Q_HB, Q_HO159, Q_HA_HO159, fun h0_ => absurd ((hoff 9 (by kernel_rfl)).symm.trans h0_) (by decide)⟩
             refine steps_cons ?_ ?_
             ·rintro b a w' ⟨v158, adz_v158, m9_, ha, Q_BK123, Q_BK140, Q_BK147, Q_BK148, Q_HB, Q_HO159, Q_HA_HO159, Q_X9_⟩ hb_ hon hoff
              refine ⟨_, rfl, fun K hK => ?_⟩
              have e35 : a.tmps[35]? = some (.pointer (some ⟨gb123, 0, none⟩)) := by rw [ha]; exact putSel_on (e := (6, 35, .pointer (some ⟨gb123, 0, none⟩))) 6 rfl rfl (hon 6 (by kernel_rfl)) rfl
              have e30 : a.tmps[30]? = some (.bool true) := by rw [ha]; exact putSel_on (e := (1, 30, .bool true)) 1 rfl rfl (hon 1 (by kernel_rfl)) rfl
              replace ha := Aside0.mk ha
              have BK123 := Aside0.mk Q_BK123
              have BK140 := Aside0.mk Q_BK140
              have BK147 := Aside0.mk Q_BK147
              have BK148 := Aside0.mk Q_BK148
              have HB := Aside0.mk Q_HB
              have hc0_ : w'.cell? ⟨gb123, 0, none⟩ = some (.int .u8 t124) := (kC BK123.out 0).trans rfl
              have hc1_ : w'.cell? ⟨gb123, 1, none⟩ = some (.int .i64 t125) := (kC BK123.out 1).trans rfl
              have hc2_ : w'.cell? ⟨gb123, 2, none⟩ = some (.int .i64 t126) := (kC BK123.out 2).trans rfl
              have hc3_ : w'.cell? ⟨gb123, 3, none⟩ = some (.int .i64 t127) := (kC BK123.out 3).trans rfl
              have hc4_ : w'.cell? ⟨gb123, 4, none⟩ = some (.int .i64 t128) := (kC BK123.out 4).trans rfl
              have hc5_ : w'.cell? ⟨gb123, 5, none⟩ = some (.int .u8 0) := (kC BK123.out 5).trans rfl
              refine value_ (w1 := w') (v := .int .u8 t124) (wanted_on rfl rfl rfl (e30.trans (by first | rfl | (simp [*]; done)))) rfl ?_ ?_
              ·go_simp
               (try simp only [i64_w])
               try rfl
              refine hK.out _ _ ⟨v158, adz_v158, m9_, (by rw [ha.out]; exact putSel_upk 7 hb_ rfl rfl rfl), Q_BK123, Q_BK140, Q_BK147, Q_BK148, Q_HB, Q_HO159, Q_HA_HO159, fun h0_ => absurd ((hoff 9 (by kernel_rfl)).symm.trans h0_) (by decide)⟩
             refine steps_cons ?_ ?_
             ·rintro b a w' ⟨v158, adz_v158, m9_, ha, Q_BK123, Q_BK140, Q_BK147, Q_BK148, Q_HB, Q_HO159, Q_HA_HO159, Q_X9_⟩ hb_ hon hoff
              refine ⟨_, rfl, fun K hK => ?_⟩
              have e36 : a.tmps[36]? = some (.int .u8 t124) := by rw [ha]; exact putSel_on (e := (7, 36, .int .u8 t124)) 7 rfl rfl (hon 7 (by kernel_rfl)) rfl
              have e30 : a.tmps[30]? = some (.bool true) := by rw [ha]; exact putSel_on (e := (1, 30, .bool true)) 1 rfl rfl (hon 1 (by kernel_rfl)) rfl
              replace ha := Aside0.mk ha
              have BK123 := Aside0.mk Q_BK123
              have BK140 := Aside0.mk Q_BK140
              have BK147 := Aside0.mk Q_BK147
              have BK148 := Aside0.mk Q_BK148
              have HB := Aside0.mk Q_HB
              refine value_ (w1 := w') (v := .int .u8 ji4) (wanted_on rfl rfl rfl (e30.trans (by first | rfl | (simp [*]; done)))) rfl ?_ ?_
              ·go_simp
               (try simp only [i64_w])
               try rfl
              refine hK.out _ _ ⟨v158, adz_v158, m9_, (by rw [ha.out]; exact putSel_upk 8 hb_ rfl rfl rfl), Q_BK123, Q_BK140, Q_BK147, Q_BK148, Q_HB, Q_HO159, Q_HA_HO159, fun h0_ => absurd ((hoff 9 (by kernel_rfl)).symm.trans h0_) (by decide)⟩
             refine steps_cons ?_ ?_
             ·rintro b a w' ⟨v158, adz_v158, m9_, ha, Q_BK123, Q_BK140, Q_BK147, Q_BK148, Q_HB, Q_HO159, Q_HA_HO159, Q_X9_⟩ hb_ hon hoff
              refine ⟨_, rfl, fun K hK => ?_⟩
              have e34 : a.tmps[34]? = some (v158) := by rw [ha]; exact putSel_on (e := (5, 34, v158)) 5 rfl rfl (hon 5 (by kernel_rfl)) rfl
              have e37 : a.tmps[37]? = some (.int .u8 ji4) := by rw [ha]; exact putSel_on (e := (8, 37, .int .u8 ji4)) 8 rfl rfl (hon 8 (by kernel_rfl)) rfl
              have e30 : a.tmps[30]? = some (.bool true) := by rw [ha]; exact putSel_on (e := (1, 30, .bool true)) 1 rfl rfl (hon 1 (by kernel_rfl)) rfl
              replace ha := Aside0.mk ha
              have BK123 := Aside0.mk Q_BK123
              have BK140 := Aside0.mk Q_BK140
              have BK147 := Aside0.mk Q_BK147
              have BK148 := Aside0.mk Q_BK148
              have HB := Aside0.mk Q_HB
              have HO159 := Aside0.mk (Q_HO159 (hon 5 (by kernel_rfl)))
              have HA_HO159 := Aside0.mk (Q_HA_HO159 (hon 5 (by kernel_rfl)))
              obtain ⟨c_, hv_⟩ := HA_HO159.out
              rw [hv_] at e34
              refine value_ (w1 := w') (v := .pointer (some (adz_v158.add ((ji4)).toNat))) (wanted_on rfl rfl rfl (e30.trans (by first | rfl | (simp [*]; done)))) rfl ?_ ?_
              ·go_simp
               (try simp only [i64_w])
               try rfl
              refine hK.out _ _ ⟨v158, adz_v158, (.pointer (some (adz_v158.add ((ji4)).toNat))), (by rw [ha.out]; exact putSel_upk 9 hb_ rfl rfl rfl), Q_BK123, Q_BK140, Q_BK147, Q_BK148, Q_HB, Q_HO159, Q_HA_HO159, fun _ => rfl⟩
             refine steps_cons ?_ ?_
             ·rintro b a w' ⟨v158, adz_v158, m9_, ha, Q_BK123, Q_BK140, Q_BK147, Q_BK148, Q_HB, Q_HO159, Q_HA_HO159, Q_X9_⟩ hb_ hon hoff
              refine ⟨_, rfl, fun K hK => ?_⟩
              have e38 : a.tmps[38]? = some (m9_) := by rw [ha]; exact putSel_on (e := (9, 38, m9_)) 9 rfl rfl (hon 9 (by kernel_rfl)) rfl
              rw [Q_X9_ (hon 9 (by kernel_rfl))] at e38
              have e30 : a.tmps[30]? = some (.bool true) := by rw [ha]; exact putSel_on (e := (1, 30, .bool true)) 1 rfl rfl (hon 1 (by kernel_rfl)) rfl
              replace ha := Aside0.mk ha
              have BK123 := Aside0.mk Q_BK123
              have BK140 := Aside0.mk Q_BK140
              have BK147 := Aside0.mk Q_BK147
              have BK148 := Aside0.mk Q_BK148
              have HB := Aside0.mk Q_HB
              have HO159 := Aside0.mk (Q_HO159 (hon 5 (by kernel_rfl)))
              have HA_HO159 := Aside0.mk (Q_HA_HO159 (hon 5 (by kernel_rfl)))
              obtain ⟨c_, hv_⟩ := HA_HO159.out
              have hF_ := HO159.out
              rw [hv_] at hF_
              obtain ⟨ad_, ea_, hx_⟩ := Kd.at_int (Kd.R_reads' hF_).2.2 (ji4) (of_eq_true pi160) (of_eq_true qi160)
              cases ea_
              refine value_ (w1 := w') (v := .int .u8 (rd y157 (ji4))) (wanted_on rfl rfl rfl (e30.trans (by first | rfl | (simp [*]; done)))) rfl ?_ ?_
              ·go_simp
               (try simp only [i64_w])
               try rfl
              refine hK.out _ _ ⟨v158, adz_v158, m9_, (by rw [ha.out]; exact putSel_upk 10 hb_ rfl rfl rfl), Q_BK123, Q_BK140, Q_BK147, Q_BK148, Q_HB, Q_HO159, Q_HA_HO159, Q_X9_⟩
             refine steps_cons ?_ ?_
             ·rintro b a w' ⟨v158, adz_v158, m9_, ha, Q_BK123, Q_BK140, Q_BK147, Q_BK148, Q_HB, Q_HO159, Q_HA_HO159, Q_X9_⟩ hb_ hon hoff
              refine ⟨_, rfl, fun K hK => ?_⟩
              have e33 : a.tmps[33]? = some (.int .u8 t156) := by rw [ha]; exact putSel_on (e := (4, 33, .int .u8 t156)) 4 rfl rfl (hon 4 (by kernel_rfl)) rfl
              have e39 : a.tmps[39]? = some (.int .u8 (rd y157 (ji4))) := by rw [ha]; exact putSel_on (e := (10, 39, .int .u8 (rd y157 (ji4)))) 10 rfl rfl (hon 10 (by kernel_rfl)) rfl
              have e30 : a.tmps[30]? = some (.bool true) := by rw [ha]; exact putSel_on (e := (1, 30, .bool true)) 1 rfl rfl (hon 1 (by kernel_rfl)) rfl
              replace ha := Aside0.mk ha
              have BK123 := Aside0.mk Q_BK123
              have BK140 := Aside0.mk Q_BK140
              have BK147 := Aside0.mk Q_BK147
              have BK148 := Aside0.mk Q_BK148
              have HB := Aside0.mk Q_HB
              have HO159 := Aside0.mk (Q_HO159 (hon 5 (by kernel_rfl)))
              have HA_HO159 := Aside0.mk (Q_HA_HO159 (hon 5 (by kernel_rfl)))
              refine value_ (w1 := w') (v := .bool (t156 == (rd y157 (ji4)))) (wanted_on rfl rfl rfl (e30.trans (by first | rfl | (simp [*]; done)))) rfl ?_ ?_
              ·go_simp
               (try simp only [i64_w])
               try rfl
              refine hK.out _ _ ⟨v158, adz_v158, m9_, (by rw [ha.out]; exact putSel_upk 11 hb_ rfl rfl rfl), Q_BK123, Q_BK140, Q_BK147, Q_BK148, Q_HB, Q_HO159, Q_HA_HO159, Q_X9_⟩
             refine steps_cons ?_ ?_
             ·rintro b a w' ⟨v158, adz_v158, m9_, ha, Q_BK123, Q_BK140, Q_BK147, Q_BK148, Q_HB, Q_HO159, Q_HA_HO159, Q_X9_⟩ hb_ hon hoff
              refine ⟨_, rfl, fun K hK => ?_⟩
              have e30 : a.tmps[30]? = some (.bool true) := by rw [ha]; exact putSel_on (e := (1, 30, .bool true)) 1 rfl rfl (hon 1 (by kernel_rfl)) rfl
              have e40 : a.tmps[40]? = some (.bool (t156 == (rd y157 (ji4)))) := by rw [ha]; exact putSel_on (e := (11, 40, .bool (t156 == (rd y157 (ji4))))) 11 rfl rfl (hon 11 (by kernel_rfl)) rfl
              replace ha := Aside0.mk ha
              have BK123 := Aside0.mk Q_BK123
              have BK140 := Aside0.mk Q_BK140
              have BK147 := Aside0.mk Q_BK147
              have BK148 := Aside0.mk Q_BK148
              have HB := Aside0.mk Q_HB
              have HO159 := Aside0.mk (Q_HO159 (hon 5 (by kernel_rfl)))
              have HA_HO159 := Aside0.mk (Q_HA_HO159 (hon 5 (by kernel_rfl)))
              refine value_ (w1 := w') (v := .bool (t156 == (rd y157 (ji4)))) (by rfl) rfl ?_ ?_
              ·go_simp
               (try simp only [i64_w])
               try rfl
              refine hK.out _ _ ⟨v158, adz_v158, m9_, (by rw [ha.out]; exact putSel_upk 12 hb_ rfl rfl rfl), Q_BK123, Q_BK140, Q_BK147, Q_BK148, Q_HB, Q_HO159, Q_HA_HO159, Q_X9_⟩
             refine steps_cons ?_ ?_
             ·rintro b a w' ⟨v158, adz_v158, m9_, ha, Q_BK123, Q_BK140, Q_BK147, Q_BK148, Q_HB, Q_HO159, Q_HA_HO159, Q_X9_⟩ hb_ hon hoff
              refine ⟨_, rfl, fun K hK => ?_⟩
              have e41 : a.tmps[41]? = some (.bool (t156 == (rd y157 (ji4)))) := by rw [ha]; exact putSel_on (e := (12, 41, .bool (t156 == (rd y157 (ji4))))) 12 rfl rfl (hon 12 (by kernel_rfl)) rfl
              replace ha := Aside0.mk ha
              have BK123 := Aside0.mk Q_BK123
              have BK140 := Aside0.mk Q_BK140
              have BK147 := Aside0.mk Q_BK147
              have BK148 := Aside0.mk Q_BK148
              have HB := Aside0.mk Q_HB
              have HO159 := Aside0.mk (Q_HO159 (hon 5 (by kernel_rfl)))
              have HA_HO159 := Aside0.mk (Q_HA_HO159 (hon 5 (by kernel_rfl)))
              refine value_ (w1 := w') (v := .bool (t156 == (rd y157 (ji4)))) (by rfl) rfl ?_ ?_
              ·go_simp
               (try simp only [i64_w])
               try rfl
              refine hK.out _ _ ⟨v158, adz_v158, m9_, (by rw [ha.out]; exact putSel_upk 13 hb_ rfl rfl rfl), Q_BK123, Q_BK140, Q_BK147, Q_BK148, Q_HB, Q_HO159, Q_HA_HO159, Q_X9_⟩
             refine steps_cons ?_ ?_
             ·rintro b a w' ⟨v158, adz_v158, m9_, ha, Q_BK123, Q_BK140, Q_BK147, Q_BK148, Q_HB, Q_HO159, Q_HA_HO159, Q_X9_⟩ hb_ hon hoff
              refine ⟨_, rfl, fun K hK => ?_⟩
              have e6 : a.tmps[6]? = some (.pointer (some ⟨gb140, 0, none⟩)) := by rw [ha]; exact (putSel_off rfl).trans rfl
              have e42 : a.tmps[42]? = some (.bool (t156 == (rd y157 (ji4)))) := by rw [ha]; exact putSel_on (e := (13, 42, .bool (t156 == (rd y157 (ji4))))) 13 rfl rfl (hon 13 (by kernel_rfl)) rfl
              replace ha := Aside0.mk ha
              have BK123 := Aside0.mk Q_BK123
              have BK140 := Aside0.mk Q_BK140
              have BK147 := Aside0.mk Q_BK147
              have BK148 := Aside0.mk Q_BK148
              have HB := Aside0.mk Q_HB
              have HO159 := Aside0.mk (Q_HO159 (hon 5 (by kernel_rfl)))
              have HA_HO159 := Aside0.mk (Q_HA_HO159 (hon 5 (by kernel_rfl)))
              have hc0_ : w'.cell? ⟨gb140, 0, none⟩ = some (.int .u8 t134) := (kC BK140.out 0).trans rfl
              have hc1_ : w'.cell? ⟨gb140, 1, none⟩ = some (.int .i64 t135) := (kC BK140.out 1).trans rfl
              have hc2_ : w'.cell? ⟨gb140, 2, none⟩ = some (.int .i64 t136) := (kC BK140.out 2).trans rfl
              have hc3_ : w'.cell? ⟨gb140, 3, none⟩ = some (.int .i64 t137) := (kC BK140.out 3).trans rfl
              have hc4_ : w'.cell? ⟨gb140, 4, none⟩ = some (.int .i64 t138) := (kC BK140.out 4).trans rfl
              have hc5_ : w'.cell? ⟨gb140, 5, none⟩ = some (.int .u8 t139) := (kC BK140.out 5).trans rfl
              refine value_ (w1 := w') (v := .agg #[.int .u8 t134, .int .i64 t135, .int .i64 t136, .int .i64 t137, .int .i64 t138, .int .u8 t139]) (wanted_on rfl rfl rfl (e42.trans (by first | rfl | (simp [*]; done)))) rfl ?_ ?_
              ·go_simp
               (try simp only [i64_w])
               try rfl
              refine hK.out _ _ ⟨v158, adz_v158, m9_, (by rw [ha.out]; exact putSel_upk 14 hb_ rfl rfl rfl), Q_BK123, Q_BK140, Q_BK147, Q_BK148, Q_HB, Q_HO159, Q_HA_HO159, Q_X9_⟩
             refine steps_cons ?_ ?_
             ·rintro b a w' ⟨v158, adz_v158, m9_, ha, Q_BK123, Q_BK140, Q_BK147, Q_BK148, Q_HB, Q_HO159, Q_HA_HO159, Q_X9_⟩ hb_ hon hoff
              refine ⟨_, rfl, fun K hK => ?_⟩
              have e8 : a.tmps[8]? = some (.pointer (some ⟨gb148, 0, none⟩)) := by rw [ha]; exact (putSel_off rfl).trans rfl
              have e42 : a.tmps[42]? = some (.bool (t156 == (rd y157 (ji4)))) := by rw [ha]; exact putSel_on (e := (13, 42, .bool (t156 == (rd y157 (ji4))))) 13 rfl rfl (hon 13 (by kernel_rfl)) rfl
              replace ha := Aside0.mk ha
              have BK123 := Aside0.mk Q_BK123
              have BK140 := Aside0.mk Q_BK140
              have BK147 := Aside0.mk Q_BK147
              have BK148 := Aside0.mk Q_BK148
              have HB := Aside0.mk Q_HB
              have HO159 := Aside0.mk (Q_HO159 (hon 5 (by kernel_rfl)))
              have HA_HO159 := Aside0.mk (Q_HA_HO159 (hon 5 (by kernel_rfl)))
              have hc0_ : w'.cell? ⟨gb148, 0, none⟩ = some (.int .u8 t124) := (kC BK148.out 0).trans rfl
              have hc1_ : w'.cell? ⟨gb148, 1, none⟩ = some (.int .i64 t125) := (kC BK148.out 1).trans rfl
              have hc2_ : w'.cell? ⟨gb148, 2, none⟩ = some (.int .i64 t126) := (kC BK148.out 2).trans rfl
              have hc3_ : w'.cell? ⟨gb148, 3, none⟩ = some (.int .i64 t127) := (kC BK148.out 3).trans rfl
              have hc4_ : w'.cell? ⟨gb148, 4, none⟩ = some (.int .i64 t128) := (kC BK148.out 4).trans rfl
              have hc5_ : w'.cell? ⟨gb148, 5, none⟩ = some (.int .u8 a1) := (kC BK148.out 5).trans rfl
              refine value_ (w1 := w') (v := .agg #[.int .u8 t124, .int .i64 t125, .int .i64 t126, .int .i64 t127, .int .i64 t128, .int .u8 a1]) (wanted_on rfl rfl rfl (e42.trans (by first | rfl | (simp [*]; done)))) rfl ?_ ?_
              ·go_simp
               (try simp only [i64_w])
               try rfl
              refine hK.out _ _ ⟨v158, adz_v158, m9_, (by rw [ha.out]; exact putSel_upk 15 hb_ rfl rfl rfl), Q_BK123, Q_BK140, Q_BK147, Q_BK148, Q_HB, Q_HO159, Q_HA_HO159, Q_X9_⟩
             refine steps_cons ?_ ?_
             ·rintro b a w' ⟨v158, adz_v158, m9_, ha, Q_BK123, Q_BK140, Q_BK147, Q_BK148, Q_HB, Q_HO159, Q_HA_HO159, Q_X9_⟩ hb_ hon hoff
              refine ⟨_, rfl, fun K hK => ?_⟩
              have e43 : a.tmps[43]? = some (.agg #[.int .u8 t134, .int .i64 t135, .int .i64 t136, .int .i64 t137, .int .i64 t138, .int .u8 t139]) := by rw [ha]; exact putSel_on (e := (14, 43, .agg #[.int .u8 t134, .int .i64 t135, .int .i64 t136, .int .i64 t137, .int .i64 t138, .int .u8 t139])) 14 rfl rfl (hon 14 (by kernel_rfl)) rfl
              have e44 : a.tmps[44]? = some (.agg #[.int .u8 t124, .int .i64 t125, .int .i64 t126, .int .i64 t127, .int .i64 t128, .int .u8 a1]) := by rw [ha]; exact putSel_on (e := (15, 44, .agg #[.int .u8 t124, .int .i64 t125, .int .i64 t126, .int .i64 t127, .int .i64 t128, .int .u8 a1])) 15 rfl rfl (hon 15 (by kernel_rfl)) rfl
              have e42 : a.tmps[42]? = some (.bool (t156 == (rd y157 (ji4)))) := by rw [ha]; exact putSel_on (e := (13, 42, .bool (t156 == (rd y157 (ji4))))) 13 rfl rfl (hon 13 (by kernel_rfl)) rfl
              replace ha := Aside0.mk ha
              have BK123 := Aside0.mk Q_BK123
              have BK140 := Aside0.mk Q_BK140
              have BK147 := Aside0.mk Q_BK147
              have BK148 := Aside0.mk Q_BK148
              have HB := Aside0.mk Q_HB
              have HO159 := Aside0.mk (Q_HO159 (hon 5 (by kernel_rfl)))
              have HA_HO159 := Aside0.mk (Q_HA_HO159 (hon 5 (by kernel_rfl)))
              refine value_ (w1 := w') (v := .bool (t134 == t124 && (t135 == t125 && (t136 == t126 && (t137 == t127 && (t138 == t128 && (t139 == a1))))))) (wanted_on rfl rfl rfl (e42.trans (by first | rfl | (simp [*]; done)))) rfl ?_ ?_
              ·go_simp
               (try simp only [i64_w])
               try rfl
              refine hK.out _ _ ⟨v158, adz_v158, m9_, (by rw [ha.out]; exact putSel_upk 16 hb_ rfl rfl rfl), Q_BK123, Q_BK140, Q_BK147, Q_BK148, Q_HB, Q_HO159, Q_HA_HO159, Q_X9_⟩
             refine steps_cons ?_ ?_
             ·rintro b a w' ⟨v158, adz_v158, m9_, ha, Q_BK123, Q_BK140, Q_BK147, Q_BK148, Q_HB, Q_HO159, Q_HA_HO159, Q_X9_⟩ hb_ hon hoff
              refine ⟨_, rfl, fun K hK => ?_⟩
              have e42 : a.tmps[42]? = some (.bool (t156 == (rd y157 (ji4)))) := by rw [ha]; exact putSel_on (e := (13, 42, .bool (t156 == (rd y157 (ji4))))) 13 rfl rfl (hon 13 (by kernel_rfl)) rfl
              have e45 : a.tmps[45]? = some (.bool (t134 == t124 && (t135 == t125 && (t136 == t126 && (t137 == t127 && (t138 == t128 && (t139 == a1))))))) := by rw [ha]; exact putSel_on (e := (16, 45, .bool (t134 == t124 && (t135 == t125 && (t136 == t126 && (t137 == t127 && (t138 == t128 && (t139 == a1)))))))) 16 rfl rfl (hon 16 (by kernel_rfl)) rfl
              replace ha := Aside0.mk ha
              have BK123 := Aside0.mk Q_BK123
              have BK140 := Aside0.mk Q_BK140
              have BK147 := Aside0.mk Q_BK147
              have BK148 := Aside0.mk Q_BK148
              have HB := Aside0.mk Q_HB
              have HO159 := Aside0.mk (Q_HO159 (hon 5 (by kernel_rfl)))
              have HA_HO159 := Aside0.mk (Q_HA_HO159 (hon 5 (by kernel_rfl)))
              refine value_ (w1 := w') (v := .bool (t134 == t124 && (t135 == t125 && (t136 == t126 && (t137 == t127 && (t138 == t128 && (t139 == a1))))))) (by rfl) rfl ?_ ?_
              ·go_simp
               (try simp only [i64_w])
               try rfl
              refine hK.out _ _ ⟨v158, adz_v158, m9_, (by rw [ha.out]; exact putSel_upk 17 hb_ rfl rfl rfl), Q_BK123, Q_BK140, Q_BK147, Q_BK148, Q_HB, Q_HO159, Q_HA_HO159, Q_X9_⟩
             refine steps_cons ?_ ?_
             ·rintro b a w' ⟨v158, adz_v158, m9_, ha, Q_BK123, Q_BK140, Q_BK147, Q_BK148, Q_HB, Q_HO159, Q_HA_HO159, Q_X9_⟩ hb_ hon hoff
              refine ⟨_, rfl, fun K hK => ?_⟩
              have e46 : a.tmps[46]? = some (.bool (t134 == t124 && (t135 == t125 && (t136 == t126 && (t137 == t127 && (t138 == t128 && (t139 == a1))))))) := by rw [ha]; exact putSel_on (e := (17, 46, .bool (t134 == t124 && (t135 == t125 && (t136 == t126 && (t137 == t127 && (t138 == t128 && (t139 == a1)))))))) 17 rfl rfl (hon 17 (by kernel_rfl)) rfl
              replace ha := Aside0.mk ha
              have BK123 := Aside0.mk Q_BK123
              have BK140 := Aside0.mk Q_BK140
              have BK147 := Aside0.mk Q_BK147
              have BK148 := Aside0.mk Q_BK148
              have HB := Aside0.mk Q_HB
              have HO159 := Aside0.mk (Q_HO159 (hon 5 (by kernel_rfl)))
              have HA_HO159 := Aside0.mk (Q_HA_HO159 (hon 5 (by kernel_rfl)))
              refine value_ (w1 := w') (v := .bool (t134 == t124 && (t135 == t125 && (t136 == t126 && (t137 == t127 && (t138 == t128 && (t139 == a1))))))) (by rfl) rfl ?_ ?_
              ·go_simp
               (try simp only [i64_w])
               try rfl
              refine hK.out _ _ ⟨v158, adz_v158, m9_, (by rw [ha.out]; exact putSel_upk 18 hb_ rfl rfl rfl), Q_BK123, Q_BK140, Q_BK147, Q_BK148, Q_HB, Q_HO159, Q_HA_HO159, Q_X9_⟩
             refine steps_cons ?_ ?_
             ·rintro b a w' ⟨v158, adz_v158, m9_, ha, Q_BK123, Q_BK140, Q_BK147, Q_BK148, Q_HB, Q_HO159, Q_HA_HO159, Q_X9_⟩ hb_ hon hoff
              refine ⟨_, rfl, fun K hK => ?_⟩
              have e7 : a.tmps[7]? = some (.pointer (some ⟨gb147, 0, none⟩)) := by rw [ha]; exact (putSel_off rfl).trans rfl
              have e47 : a.tmps[47]? = some (.bool (t134 == t124 && (t135 == t125 && (t136 == t126 && (t137 == t127 && (t138 == t128 && (t139 == a1))))))) := by rw [ha]; exact putSel_on (e := (18, 47, .bool (t134 == t124 && (t135 == t125 && (t136 == t126 && (t137 == t127 && (t138 == t128 && (t139 == a1)))))))) 18 rfl rfl (hon 18 (by kernel_rfl)) rfl
              replace ha := Aside0.mk ha
              have BK123 := Aside0.mk Q_BK123
              have BK140 := Aside0.mk Q_BK140
              have BK147 := Aside0.mk Q_BK147
              have BK148 := Aside0.mk Q_BK148
              have HB := Aside0.mk Q_HB
              have HO159 := Aside0.mk (Q_HO159 (hon 5 (by kernel_rfl)))
              have HA_HO159 := Aside0.mk (Q_HA_HO159 (hon 5 (by kernel_rfl)))
              have hc0_ : w'.cell? ⟨gb147, 0, none⟩ = some (.int .u8 t141) := (kC BK147.out 0).trans rfl
              have hc1_ : w'.cell? ⟨gb147, 1, none⟩ = some (.int .i64 t142) := (kC BK147.out 1).trans rfl
              have hc2_ : w'.cell? ⟨gb147, 2, none⟩ = some (.int .i64 t143) := (kC BK147.out 2).trans rfl
              have hc3_ : w'.cell? ⟨gb147, 3, none⟩ = some (.int .i64 t144) := (kC BK147.out 3).trans rfl
              have hc4_ : w'.cell? ⟨gb147, 4, none⟩ = some (.int .i64 t145) := (kC BK147.out 4).trans rfl
              have hc5_ : w'.cell? ⟨gb147, 5, none⟩ = some (.int .u8 t146) := (kC BK147.out 5).trans rfl
              refine value_ (w1 := w') (v := .agg #[.int .u8 t141, .int .i64 t142, .int .i64 t143, .int .i64 t144, .int .i64 t145, .int .u8 t146]) (wanted_on rfl rfl rfl (e47.trans (by first | rfl | (simp [*]; done)))) rfl ?_ ?_
              ·go_simp
               (try simp only [i64_w])
               try rfl
              refine hK.out _ _ ⟨v158, adz_v158, m9_, (by rw [ha.out]; exact putSel_upk 19 hb_ rfl rfl rfl), Q_BK123, Q_BK140, Q_BK147, Q_BK148, Q_HB, Q_HO159, Q_HA_HO159, Q_X9_⟩
             refine steps_cons ?_ ?_
             ·rintro b a w' ⟨v158, adz_v158, m9_, ha, Q_BK123, Q_BK140, Q_BK147, Q_BK148, Q_HB, Q_HO159, Q_HA_HO159, Q_X9_⟩ hb_ hon hoff
              refine ⟨_, rfl, fun K hK => ?_⟩
              have e2 : a.tmps[2]? = some (.pointer (some ⟨gb123, 0, none⟩)) := by rw [ha]; exact (putSel_off rfl).trans rfl
              have e47 : a.tmps[47]? = some (.bool (t134 == t124 && (t135 == t125 && (t136 == t126 && (t137 == t127 && (t138 == t128 && (t139 == a1))))))) := by rw [ha]; exact putSel_on (e := (18, 47, .bool (t134 == t124 && (t135 == t125 && (t136 == t126 && (t137 == t127 && (t138 == t128 && (t139 == a1)))))))) 18 rfl rfl (hon 18 (by kernel_rfl)) rfl
              replace ha := Aside0.mk ha
              have BK123 := Aside0.mk Q_BK123
              have BK140 := Aside0.mk Q_BK140
              have BK147 := Aside0.mk Q_BK147
              have BK148 := Aside0.mk Q_BK148
              have HB := Aside0.mk Q_HB
              have HO159 := Aside0.mk (Q_HO159 (hon 5 (by kernel_rfl)))
              have HA_HO159 := Aside0.mk (Q_HA_HO159 (hon 5 (by kernel_rfl)))
              have hc0_ : w'.cell? ⟨gb123, 0, none⟩ = some (.int .u8 t124) := (kC BK123.out 0).trans rfl
              have hc1_ : w'.cell? ⟨gb123, 1, none⟩ = some (.int .i64 t125) := (kC BK123.out 1).trans rfl
              have hc2_ : w'.cell? ⟨gb123, 2, none⟩ = some (.int .i64 t126) := (kC BK123.out 2).trans rfl
              have hc3_ : w'.cell? ⟨gb123, 3, none⟩ = some (.int .i64 t127) := (kC BK123.out 3).trans rfl
              have hc4_ : w'.cell? ⟨gb123, 4, none⟩ = some (.int .i64 t128) := (kC BK123.out 4).trans rfl
              have hc5_ : w'.cell? ⟨gb123, 5, none⟩ = some (.int .u8 0) := (kC BK123.out 5).trans rfl
              refine value_ (w1 := w') (v := .agg #[.int .u8 t124, .int .i64 t125, .int .i64 t126, .int .i64 t127, .int .i64 t128, .int .u8 0]) (wanted_on rfl rfl rfl (e47.trans (by first | rfl | (simp [*]; done)))) rfl ?_ ?_
              ·go_simp
               (try simp only [i64_w])
               try rfl
              refine hK.out _ _ ⟨v158, adz_v158, m9_, (by rw [ha.out]; exact putSel_upk 20 hb_ rfl rfl rfl), Q_BK123, Q_BK140, Q_BK147, Q_BK148, Q_HB, Q_HO159, Q_HA_HO159, Q_X9_⟩
             refine steps_cons ?_ ?_
             ·rintro b a w' ⟨v158, adz_v158, m9_, ha, Q_BK123, Q_BK140, Q_BK147, Q_BK148, Q_HB, Q_HO159, Q_HA_HO159, Q_X9_⟩ hb_ hon hoff
              refine ⟨_, rfl, fun K hK => ?_⟩
              have e48 : a.tmps[48]? = some (.agg #[.int .u8 t141, .int .i64 t142, .int .i64 t143, .int .i64 t144, .int .i64 t145, .int .u8 t146]) := by rw [ha]; exact putSel_on (e := (19, 48, .agg #[.int .u8 t141, .int .i64 t142, .int .i64 t143, .int .i64 t144, .int .i64 t145, .int .u8 t146])) 19 rfl rfl (hon 19 (by kernel_rfl)) rfl
              have e49 : a.tmps[49]? = some (.agg #[.int .u8 t124, .int .i64 t125, .int .i64 t126, .int .i64 t127, .int .i64 t128, .int .u8 0]) := by rw [ha]; exact putSel_on (e := (20, 49, .agg #[.int .u8 t124, .int .i64 t125, .int .i64 t126, .int .i64 t127, .int .i64 t128, .int .u8 0])) 20 rfl rfl (hon 20 (by kernel_rfl)) rfl
              have e47 : a.tmps[47]? = some (.bool (t134 == t124 && (t135 == t125 && (t136 == t126 && (t137 == t127 && (t138 == t128 && (t139 == a1))))))) := by rw [ha]; exact putSel_on (e := (18, 47, .bool (t134 == t124 && (t135 == t125 && (t136 == t126 && (t137 == t127 && (t138 == t128 && (t139 == a1)))))))) 18 rfl rfl (hon 18 (by kernel_rfl)) rfl
              replace ha := Aside0.mk ha
              have BK123 := Aside0.mk Q_BK123
              have BK140 := Aside0.mk Q_BK140
              have BK147 := Aside0.mk Q_BK147
              have BK148 := Aside0.mk Q_BK148
              have HB := Aside0.mk Q_HB
              have HO159 := Aside0.mk (Q_HO159 (hon 5 (by kernel_rfl)))
              have HA_HO159 := Aside0.mk (Q_HA_HO159 (hon 5 (by kernel_rfl)))
              refine value_ (w1 := w') (v := .bool (t141 == t124 && (t142 == t125 && (t143 == t126 && (t144 == t127 && (t145 == t128 && (t146 == 0))))))) (wanted_on rfl rfl rfl (e47.trans (by first | rfl | (simp [*]; done)))) rfl ?_ ?_
              ·go_simp
               (try simp only [i64_w])
               try rfl
              refine hK.out _ _ ⟨v158, adz_v158, m9_, (by rw [ha.out]; exact putSel_upk 21 hb_ rfl rfl rfl), Q_BK123, Q_BK140, Q_BK147, Q_BK148, Q_HB, Q_HO159, Q_HA_HO159, Q_X9_⟩
             refine steps_cons ?_ ?_
             ·rintro b a w' ⟨v158, adz_v158, m9_, ha, Q_BK123, Q_BK140, Q_BK147, Q_BK148, Q_HB, Q_HO159, Q_HA_HO159, Q_X9_⟩ hb_ hon hoff
              refine ⟨_, rfl, fun K hK => ?_⟩
              have e47 : a.tmps[47]? = some (.bool (t134 == t124 && (t135 == t125 && (t136 == t126 && (t137 == t127 && (t138 == t128 && (t139 == a1))))))) := by rw [ha]; exact putSel_on (e := (18, 47, .bool (t134 == t124 && (t135 == t125 && (t136 == t126 && (t137 == t127 && (t138 == t128 && (t139 == a1)))))))) 18 rfl rfl (hon 18 (by kernel_rfl)) rfl
              have e50 : a.tmps[50]? = some (.bool (t141 == t124 && (t142 == t125 && (t143 == t126 && (t144 == t127 && (t145 == t128 && (t146 == 0))))))) := by rw [ha]; exact putSel_on (e := (21, 50, .bool (t141 == t124 && (t142 == t125 && (t143 == t126 && (t144 == t127 && (t145 == t128 && (t146 == 0)))))))) 21 rfl rfl (hon 21 (by kernel_rfl)) rfl
              replace ha := Aside0.mk ha
              have BK123 := Aside0.mk Q_BK123
              have BK140 := Aside0.mk Q_BK140
              have BK147 := Aside0.mk Q_BK147
              have BK148 := Aside0.mk Q_BK148
              have HB := Aside0.mk Q_HB
              have HO159 := Aside0.mk (Q_HO159 (hon 5 (by kernel_rfl)))
              have HA_HO159 := Aside0.mk (Q_HA_HO159 (hon 5 (by kernel_rfl)))
              refine value_ (w1 := w') (v := .bool (t141 == t124 && (t142 == t125 && (t143 == t126 && (t144 == t127 && (t145 == t128 && (t146 == 0))))))) (by rfl) rfl ?_ ?_
              ·go_simp
               (try simp only [i64_w])
               try rfl
              refine hK.out _ _ ⟨v158, adz_v158, m9_, (by rw [ha.out]; exact putSel_upk 22 hb_ rfl rfl rfl), Q_BK123, Q_BK140, Q_BK147, Q_BK148, Q_HB, Q_HO159, Q_HA_HO159, Q_X9_⟩
             refine steps_cons ?_ ?_
             ·rintro b a w' ⟨v158, adz_v158, m9_, ha, Q_BK123, Q_BK140, Q_BK147, Q_BK148, Q_HB, Q_HO159, Q_HA_HO159, Q_X9_⟩ hb_ hon hoff
              refine ⟨_, rfl, fun K hK => ?_⟩
              have e51 : a.tmps[51]? = some (.bool (t141 == t124 && (t142 == t125 && (t143 == t126 && (t144 == t127 && (t145 == t128 && (t146 == 0))))))) := by rw [ha]; exact putSel_on (e := (22, 51, .bool (t141 == t124 && (t142 == t125 && (t143 == t126 && (t144 == t127 && (t145 == t128 && (t146 == 0)))))))) 22 rfl rfl (hon 22 (by kernel_rfl)) rfl
              replace ha := Aside0.mk ha
              have BK123 := Aside0.mk Q_BK123
              have BK140 := Aside0.mk Q_BK140
              have BK147 := Aside0.mk Q_BK147
              have BK148 := Aside0.mk Q_BK148
              have HB := Aside0.mk Q_HB
              have HO159 := Aside0.mk (Q_HO159 (hon 5 (by kernel_rfl)))
              have HA_HO159 := Aside0.mk (Q_HA_HO159 (hon 5 (by kernel_rfl)))
              refine value_ (w1 := w') (v := .bool (t141 == t124 && (t142 == t125 && (t143 == t126 && (t144 == t127 && (t145 == t128 && (t146 == 0))))))) (by rfl) rfl ?_ ?_
              ·go_simp
               (try simp only [i64_w])
               try rfl
              refine hK.out _ _ ⟨v158, adz_v158, m9_, (by rw [ha.out]; exact putSel_upk 23 hb_ rfl rfl rfl), Q_BK123, Q_BK140, Q_BK147, Q_BK148, Q_HB, Q_HO159, Q_HA_HO159, Q_X9_⟩
             refine steps_cons ?_ ?_
             ·rintro b a w' ⟨v158, adz_v158, m9_, ha, Q_BK123, Q_BK140, Q_BK147, Q_BK148, Q_HB, Q_HO159, Q_HA_HO159, Q_X9_⟩ hb_ hon hoff
              refine ⟨_, rfl, fun K hK => ?_⟩
              have e5 : a.tmps[5]? = some (.int .u8 x5_6) := by rw [ha]; exact (putSel_off rfl).trans rfl
              have e52 : a.tmps[52]? = some (.bool (t141 == t124 && (t142 == t125 && (t143 == t126 && (t144 == t127 && (t145 == t128 && (t146 == 0))))))) := by rw [ha]; exact putSel_on (e := (23, 52, .bool (t141 == t124 && (t142 == t125 && (t143 == t126 && (t144 == t127 && (t145 == t128 && (t146 == 0)))))))) 23 rfl rfl (hon 23 (by kernel_rfl)) rfl
              replace ha := Aside0.mk ha
              have BK123 := Aside0.mk Q_BK123
              have BK140 := Aside0.mk Q_BK140
              have BK147 := Aside0.mk Q_BK147
              have BK148 := Aside0.mk Q_BK148
              have HB := Aside0.mk Q_HB
              have HO159 := Aside0.mk (Q_HO159 (hon 5 (by kernel_rfl)))
              have HA_HO159 := Aside0.mk (Q_HA_HO159 (hon 5 (by kernel_rfl)))
              refine value_ (w1 := w') (v := .int .u8 x5_6) (wanted_on rfl rfl rfl (e52.trans (by first | rfl | (simp [*]; done)))) rfl ?_ ?_
              ·go_simp
               (try simp only [i64_w])
               try rfl
              refine hK.out _ _ ⟨v158, adz_v158, m9_, (by rw [ha.out]; exact putSel_upk 24 hb_ rfl rfl rfl), Q_BK123, Q_BK140, Q_BK147, Q_BK148, Q_HB, Q_HO159, Q_HA_HO159, Q_X9_⟩
             refine steps_cons ?_ ?_
             ·rintro b a w' ⟨v158, adz_v158, m9_, ha, Q_BK123, Q_BK140, Q_BK147, Q_BK148, Q_HB, Q_HO159, Q_HA_HO159, Q_X9_⟩ hb_ hon hoff
              refine ⟨_, rfl, fun K hK => ?_⟩
              have e53 : a.tmps[53]? = some (.int .u8 x5_6) := by rw [ha]; exact putSel_on (e := (24, 53, .int .u8 x5_6)) 24 rfl rfl (hon 24 (by kernel_rfl)) rfl
              have e52 : a.tmps[52]? = some (.bool (t141 == t124 && (t142 == t125 && (t143 == t126 && (t144 == t127 && (t145 == t128 && (t146 == 0))))))) := by rw [ha]; exact putSel_on (e := (23, 52, .bool (t141 == t124 && (t142 == t125 && (t143 == t126 && (t144 == t127 && (t145 == t128 && (t146 == 0)))))))) 23 rfl rfl (hon 23 (by kernel_rfl)) rfl
              replace ha := Aside0.mk ha
              have BK123 := Aside0.mk Q_BK123
              have BK140 := Aside0.mk Q_BK140
              have BK147 := Aside0.mk Q_BK147
              have BK148 := Aside0.mk Q_BK148
              have HB := Aside0.mk Q_HB
              have HO159 := Aside0.mk (Q_HO159 (hon 5 (by kernel_rfl)))
              have HA_HO159 := Aside0.mk (Q_HA_HO159 (hon 5 (by kernel_rfl)))
              refine value_ (w1 := w') (v := .bool (decide (x5_6 < 3))) (wanted_on rfl rfl rfl (e52.trans (by first | rfl | (simp [*]; done)))) rfl ?_ ?_
              ·go_simp
               (try simp only [i64_w])
               try rfl
              refine hK.out _ _ ⟨v158, adz_v158, m9_, (by rw [ha.out]; exact putSel_upk 25 hb_ rfl rfl rfl), Q_BK123, Q_BK140, Q_BK147, Q_BK148, Q_HB, Q_HO159, Q_HA_HO159, Q_X9_⟩
             refine steps_cons ?_ ?_
             ·rintro b a w' ⟨v158, adz_v158, m9_, ha, Q_BK123, Q_BK140, Q_BK147, Q_BK148, Q_HB, Q_HO159, Q_HA_HO159, Q_X9_⟩ hb_ hon hoff
              refine ⟨_, rfl, fun K hK => ?_⟩
              have e54 : a.tmps[54]? = some (.bool (decide (x5_6 < 3))) := by rw [ha]; exact putSel_on (e := (25, 54, .bool (decide (x5_6 < 3)))) 25 rfl rfl (hon 25 (by kernel_rfl)) rfl
              have e52 : a.tmps[52]? = some (.bool (t141 == t124 && (t142 == t125 && (t143 == t126 && (t144 == t127 && (t145 == t128 && (t146 == 0))))))) := by rw [ha]; exact putSel_on (e := (23, 52, .bool (t141 == t124 && (t142 == t125 && (t143 == t126 && (t144 == t127 && (t145 == t128 && (t146 == 0)))))))) 23 rfl rfl (hon 23 (by kernel_rfl)) rfl
              replace ha := Aside0.mk ha
              have BK123 := Aside0.mk Q_BK123
              have BK140 := Aside0.mk Q_BK140
              have BK147 := Aside0.mk Q_BK147
              have BK148 := Aside0.mk Q_BK148
              have HB := Aside0.mk Q_HB
              have HO159 := Aside0.mk (Q_HO159 (hon 5 (by kernel_rfl)))
              have HA_HO159 := Aside0.mk (Q_HA_HO159 (hon 5 (by kernel_rfl)))
              refine value_ (w1 := w') (v := .bool (decide (x5_6 < 3))) (wanted_on rfl rfl rfl (e52.trans (by first | rfl | (simp [*]; done)))) rfl ?_ ?_
              ·go_simp
               (try simp only [i64_w])
               try rfl
              refine hK.out _ _ ⟨v158, adz_v158, m9_, (by rw [ha.out]; exact putSel_upk 26 hb_ rfl rfl rfl), Q_BK123, Q_BK140, Q_BK147, Q_BK148, Q_HB, Q_HO159, Q_HA_HO159, Q_X9_⟩
             refine steps_cons ?_ ?_
             ·rintro b a w' ⟨v158, adz_v158, m9_, ha, Q_BK123, Q_BK140, Q_BK147, Q_BK148, Q_HB, Q_HO159, Q_HA_HO159, Q_X9_⟩ hb_ hon hoff
              refine ⟨_, rfl, fun K hK => ?_⟩
              have e5 : a.tmps[5]? = some (.int .u8 x5_6) := by rw [ha]; exact (putSel_off rfl).trans rfl
              have e55 : a.tmps[55]? = some (.bool (decide (x5_6 < 3))) := by rw [ha]; exact putSel_on (e := (26, 55, .bool (decide (x5_6 < 3)))) 26 rfl rfl (hon 26 (by kernel_rfl)) rfl
              replace ha := Aside0.mk ha
              have BK123 := Aside0.mk Q_BK123
              have BK140 := Aside0.mk Q_BK140
              have BK147 := Aside0.mk Q_BK147
              have BK148 := Aside0.mk Q_BK148
              have HB := Aside0.mk Q_HB
              have HO159 := Aside0.mk (Q_HO159 (hon 5 (by kernel_rfl)))
              have HA_HO159 := Aside0.mk (Q_HA_HO159 (hon 5 (by kernel_rfl)))
              refine value_ (w1 := w') (v := .int .u8 x5_6) (wanted_on rfl rfl rfl (e55.trans (by first | rfl | (simp [*]; done)))) rfl ?_ ?_
              ·go_simp
               (try simp only [i64_w])
               try rfl
              refine hK.out _ _ ⟨v158, adz_v158, m9_, (by rw [ha.out]; exact putSel_upk 27 hb_ rfl rfl rfl), Q_BK123, Q_BK140, Q_BK147, Q_BK148, Q_HB, Q_HO159, Q_HA_HO159, Q_X9_⟩
             refine steps_cons ?_ ?_
             ·rintro b a w' ⟨v158, adz_v158, m9_, ha, Q_BK123, Q_BK140, Q_BK147, Q_BK148, Q_HB, Q_HO159, Q_HA_HO159, Q_X9_⟩ hb_ hon hoff
              refine ⟨_, rfl, fun K hK => ?_⟩
              have e56 : a.tmps[56]? = some (.int .u8 x5_6) := by rw [ha]; exact putSel_on (e := (27, 56, .int .u8 x5_6)) 27 rfl rfl (hon 27 (by kernel_rfl)) rfl
              have e55 : a.tmps[55]? = some (.bool (decide (x5_6 < 3))) := by rw [ha]; exact putSel_on (e := (26, 55, .bool (decide (x5_6 < 3)))) 26 rfl rfl (hon 26 (by kernel_rfl)) rfl
              replace ha := Aside0.mk ha
              have BK123 := Aside0.mk Q_BK123
              have BK140 := Aside0.mk Q_BK140
              have BK147 := Aside0.mk Q_BK147
              have BK148 := Aside0.mk Q_BK148
              have HB := Aside0.mk Q_HB
              have HO159 := Aside0.mk (Q_HO159 (hon 5 (by kernel_rfl)))
              have HA_HO159 := Aside0.mk (Q_HA_HO159 (hon 5 (by kernel_rfl)))
              refine value_ (w1 := w') (v := .bool (x5_6 == 3)) (wanted_on rfl rfl rfl (e55.trans (by first | rfl | (simp [*]; done)))) rfl ?_ ?_
              ·go_simp
               (try simp only [i64_w])
               try rfl
              refine hK.out _ _ ⟨v158, adz_v158, m9_, (by rw [ha.out]; exact putSel_upk 28 hb_ rfl rfl rfl), Q_BK123, Q_BK140, Q_BK147, Q_BK148, Q_HB, Q_HO159, Q_HA_HO159, Q_X9_⟩
             refine steps_cons ?_ ?_
             ·rintro b a w' ⟨v158, adz_v158, m9_, ha, Q_BK123, Q_BK140, Q_BK147, Q_BK148, Q_HB, Q_HO159, Q_HA_HO159, Q_X9_⟩ hb_ hon hoff
              refine ⟨_, rfl, fun K hK => ?_⟩
              have e55 : a.tmps[55]? = some (.bool (decide (x5_6 < 3))) := by rw [ha]; exact putSel_on (e := (26, 55, .bool (decide (x5_6 < 3)))) 26 rfl rfl (hon 26 (by kernel_rfl)) rfl
              have e57 : a.tmps[57]? = some (.bool (x5_6 == 3)) := by rw [ha]; exact putSel_on (e := (28, 57, .bool (x5_6 == 3))) 28 rfl rfl (hon 28 (by kernel_rfl)) rfl
              have e52 : a.tmps[52]? = some (.bool (t141 == t124 && (t142 == t125 && (t143 == t126 && (t144 == t127 && (t145 == t128 && (t146 == 0))))))) := by rw [ha]; exact putSel_on (e := (23, 52, .bool (t141 == t124 && (t142 == t125 && (t143 == t126 && (t144 == t127 && (t145 == t128 && (t146 == 0)))))))) 23 rfl rfl (hon 23 (by kernel_rfl)) rfl
              replace ha := Aside0.mk ha
              have BK123 := Aside0.mk Q_BK123
              have BK140 := Aside0.mk Q_BK140
              have BK147 := Aside0.mk Q_BK147
              have BK148 := Aside0.mk Q_BK148
              have HB := Aside0.mk Q_HB
              have HO159 := Aside0.mk (Q_HO159 (hon 5 (by kernel_rfl)))
              have HA_HO159 := Aside0.mk (Q_HA_HO159 (hon 5 (by kernel_rfl)))
              refine value_ (w1 := w') (v := .bool (x5_6 == 3)) (wanted_on rfl rfl rfl (e52.trans (by first | rfl | (simp [*]; done)))) rfl ?_ ?_
              ·go_simp
               (try simp only [i64_w])
               try rfl
              refine hK.out _ _ ⟨v158, adz_v158, m9_, (by rw [ha.out]; exact putSel_upk 29 hb_ rfl rfl rfl), Q_BK123, Q_BK140, Q_BK147, Q_BK148, Q_HB, Q_HO159, Q_HA_HO159, Q_X9_⟩
             refine steps_cons ?_ ?_
             ·rintro b a w' ⟨v158, adz_v158, m9_, ha, Q_BK123, Q_BK140, Q_BK147, Q_BK148, Q_HB, Q_HO159, Q_HA_HO159, Q_X9_⟩ hb_ hon hoff
              refine ⟨_, rfl, fun K hK => ?_⟩
              have e52 : a.tmps[52]? = some (.bool (t141 == t124 && (t142 == t125 && (t143 == t126 && (t144 == t127 && (t145 == t128 && (t146 == 0))))))) := by rw [ha]; exact putSel_on (e := (23, 52, .bool (t141 == t124 && (t142 == t125 && (t143 == t126 && (t144 == t127 && (t145 == t128 && (t146 == 0)))))))) 23 rfl rfl (hon 23 (by kernel_rfl)) rfl
              have e58 : a.tmps[58]? = some (.bool (x5_6 == 3)) := by rw [ha]; exact putSel_on (e := (29, 58, .bool (x5_6 == 3))) 29 rfl rfl (hon 29 (by kernel_rfl)) rfl
              replace ha := Aside0.mk ha
              have BK123 := Aside0.mk Q_BK123
              have BK140 := Aside0.mk Q_BK140
              have BK147 := Aside0.mk Q_BK147
              have BK148 := Aside0.mk Q_BK148
              have HB := Aside0.mk Q_HB
              have HO159 := Aside0.mk (Q_HO159 (hon 5 (by kernel_rfl)))
              have HA_HO159 := Aside0.mk (Q_HA_HO159 (hon 5 (by kernel_rfl)))
              refine value_ (w1 := w') (v := .bool (x5_6 == 3)) (by rfl) rfl ?_ ?_
              ·go_simp
               (try simp only [i64_w])
               try rfl
              refine hK.out _ _ ⟨v158, adz_v158, m9_, (by rw [ha.out]; exact putSel_upk 30 hb_ rfl rfl rfl), Q_BK123, Q_BK140, Q_BK147, Q_BK148, Q_HB, Q_HO159, Q_HA_HO159, Q_X9_⟩
             refine steps_cons ?_ ?_
             ·rintro b a w' ⟨v158, adz_v158, m9_, ha, Q_BK123, Q_BK140, Q_BK147, Q_BK148, Q_HB, Q_HO159, Q_HA_HO159, Q_X9_⟩ hb_ hon hoff
              refine ⟨_, rfl, fun K hK => ?_⟩
              have e59 : a.tmps[59]? = some (.bool (x5_6 == 3)) := by rw [ha]; exact putSel_on (e := (30, 59, .bool (x5_6 == 3))) 30 rfl rfl (hon 30 (by kernel_rfl)) rfl
              replace ha := Aside0.mk ha
              have BK123 := Aside0.mk Q_BK123
              have BK140 := Aside0.mk Q_BK140
              have BK147 := Aside0.mk Q_BK147
              have BK148 := Aside0.mk Q_BK148
              have HB := Aside0.mk Q_HB
              have HO159 := Aside0.mk (Q_HO159 (hon 5 (by kernel_rfl)))
              have HA_HO159 := Aside0.mk (Q_HA_HO159 (hon 5 (by kernel_rfl)))
              refine value_ (w1 := w') (v := .bool (x5_6 == 3)) (by rfl) rfl ?_ ?_
              ·go_simp
               (try simp only [i64_w])
               try rfl
              refine hK.out _ _ ⟨v158, adz_v158, m9_, (by rw [ha.out]; exact putSel_upk 31 hb_ rfl rfl rfl), Q_BK123, Q_BK140, Q_BK147, Q_BK148, Q_HB, Q_HO159, Q_HA_HO159, Q_X9_⟩
             exact steps_nil
            rintro b a w79 hall ⟨v158, adz_v158, m9_, ha, Q_BK123, Q_BK140, Q_BK147, Q_BK148, Q_HB, Q_HO159, Q_HA_HO159, Q_X9_⟩
            clear BK123 BK140 BK147 BK148 HB
            have hb0_ := hall 0 (by kernel_rfl)
            have hb1_ := hall 1 (by kernel_rfl)
            have hb2_ := hall 2 (by kernel_rfl)
            have hb3_ := hall 3 (by kernel_rfl)
            have hb4_ := hall 4 (by kernel_rfl)
            have hb5_ := hall 5 (by kernel_rfl)
            have hb6_ := hall 6 (by kernel_rfl)
            have hb7_ := hall 7 (by kernel_rfl)
            have hb8_ := hall 8 (by kernel_rfl)
            have hb9_ := hall 9 (by kernel_rfl)
            have hb10_ := hall 10 (by kernel_rfl)
            have hb11_ := hall 11 (by kernel_rfl)
            have hb12_ := hall 12 (by kernel_rfl)
            have hb13_ := hall 13 (by kernel_rfl)
            have hb14_ := hall 14 (by kernel_rfl)
            have hb15_ := hall 15 (by kernel_rfl)
            have hb16_ := hall 16 (by kernel_rfl)
            have hb17_ := hall 17 (by kernel_rfl)
            have hb18_ := hall 18 (by kernel_rfl)
            have hb19_ := hall 19 (by kernel_rfl)
            have hb20_ := hall 20 (by kernel_rfl)
            have hb21_ := hall 21 (by kernel_rfl)
            have hb22_ := hall 22 (by kernel_rfl)
            have hb23_ := hall 23 (by kernel_rfl)
            have hb24_ := hall 24 (by kernel_rfl)
            have hb25_ := hall 25 (by kernel_rfl)
            have hb26_ := hall 26 (by kernel_rfl)
            have hb27_ := hall 27 (by kernel_rfl)
            have hb28_ := hall 28 (by kernel_rfl)
            have hb29_ := hall 29 (by kernel_rfl)
            have hb30_ := hall 30 (by kernel_rfl)
            have hb31_ := hall 31 (by kernel_rfl)
            subst ha
            obtain rfl := Q_X9_ hb9_
            simp only [putSel, hb0_, hb1_, hb2_, hb3_, hb4_, hb5_, hb6_, hb7_, hb8_, hb9_, hb10_, hb11_, hb12_, hb13_, hb14_, hb15_, hb16_, hb17_, hb18_, hb19_, hb20_, hb21_, hb22_, hb23_, hb24_, hb25_, hb26_, hb27_, hb28_, hb29_, hb30_, hb31_, if_true, Act.put, List.setIfInBounds_toArray, List.set_cons_zero, List.set_cons_succ]
            have BK123 := Aside0.mk Q_BK123
            clear Q_BK123
            have BK140 := Aside0.mk Q_BK140
            clear Q_BK140
            have BK147 := Aside0.mk Q_BK147
            clear Q_BK147
            have BK148 := Aside0.mk Q_BK148
            clear Q_BK148
            have HB := Aside0.mk Q_HB
            clear Q_HB
            have HO159 := Aside0.mk (Q_HO159 hb5_)
            clear Q_HO159
            have HA_HO159 := Aside0.mk (Q_HA_HO159 hb5_)
            clear Q_HA_HO159
            clear hall hb0_ hb1_ hb2_ hb3_ hb4_ hb5_ hb6_ hb7_ hb8_ hb9_ hb10_ hb11_ hb12_ hb13_ hb14_ hb15_ hb16_ hb17_ hb18_ hb19_ hb20_ hb21_ hb22_ hb23_ hb24_ hb25_ hb26_ hb27_ hb28_ hb29_ hb30_ hb31_
            obtain ⟨co80, eo80⟩ := HA_HO159.out
            clear HA_HO159
            subst eo80
            try go_wp2
            go_ret
            exact ⟨by first | rfl | (simp [errW_none, errW_some] <;> rfl) | (simp only [← hji4]; first | rfl | (simp [errW_none, errW_some] <;> rfl)) | (simp [*, errW_none, errW_some] <;> rfl), by repeat (first | (with_reducible first | exact HB.out | apply kL | apply kM | apply kE | refine kS ?_ GE123.out | refine kS ?_ GE140.out | refine kS ?_ GE147.out | refine kS ?_ GE148.out) | exact HB.out)⟩
          ·rw [if_neg c27] at H
           have c27b0 : (t141 == t124 && (t142 == t125 && (t143 == t126 && (t144 == t127 && (t145 == t128 && (t146 == 0)))))) = false := by simpa using c27
           (try (have c27b1 : decide (t141 = t124 && (t142 == t125 && (t143 == t126 && (t144 == t127 && (t145 == t128 && (t146 == 0)))))) = false := by simpa using c27))
           (try (have c27b2 : (t141 == t124 && (t142 == t125 && (t143 == t126 && (t144 == t127 && (t145 == t128 && (t146 == 0)))))) = false := by simpa using c27))
           (try (have c27b3 : ¬ (t141 = t124 && (t142 == t125 && (t143 == t126 && (t144 == t127 && (t145 == t128 && (t146 == 0)))))) := by simpa using c27))
           clear c27
           exact absurd H (by simp)
         ·rw [if_neg c26] at H
          have c26b0 : (t134 == t124 && (t135 == t125 && (t136 == t126 && (t137 == t127 && (t138 == t128 && (t139 == a1)))))) = false := by simpa using c26
          (try (have c26b1 : decide (t134 = t124 && (t135 == t125 && (t136 == t126 && (t137 == t127 && (t138 == t128 && (t139 == a1)))))) = false := by simpa using c26))
          (try (have c26b2 : (t134 == t124 && (t135 == t125 && (t136 == t126 && (t137 == t127 && (t138 == t128 && (t139 == a1)))))) = false := by simpa using c26))
          (try (have c26b3 : ¬ (t134 = t124 && (t135 == t125 && (t136 == t126 && (t137 == t127 && (t138 == t128 && (t139 == a1)))))) := by simpa using c26))
          clear c26
          exact absurd H (by simp)
        ·rw [if_neg c25] at H
         have c25b0 : (t156 == (rd y157 (ji4))) = false := beq_eq_false_iff_ne.mpr c25
         have c25b1 : (t156 != (rd y157 (ji4))) = true := bne_iff_ne.mpr c25
         exact absurd H (by simp)
       ·rw [if_neg c24] at H
        exact absurd H (by simp)
      ·rw [if_neg c23] at H
       exact absurd H (by simp)
     ·replace c20 := Bool.eq_false_iff.mpr c20
      subst c20
      have H1 : (some false) = some true := by rw [if_neg (show ¬ (false = true) by decide)] at H; try exact H
      clear H
      have H := H1
      clear H1
      exact absurd H (by simp)
  ·rw [if_neg c6] at H
   exact absurd H (by simp)
 ·rw [if_neg c5] at H
  exact absurd H (by simp)

/-- THE ONE PURE STATEMENT of paybooklaw11_NoticeParties: yours. -/
def paybooklaw11_NoticeParties.Pure : Prop := ∀ (a0_0 : Int) (a0_1 : Int) (a0_2 : Int) (a0_3 : Int) (a0_4 : Int) (a0_5 : Int) (a1 : Int), (Lit.int .u8 a0_0).wf = true → (Lit.int .i64 a0_1).wf = true → (Lit.int .i64 a0_2).wf = true → (Lit.int .i64 a0_3).wf = true → (Lit.int .i64 a0_4).wf = true → (Lit.int .u8 a0_5).wf = true → (Lit.int .u8 a1).wf = true → ∃ k, paybooklaw11_NoticeParties.f k a0_0 a0_1 a0_2 a0_3 a0_4 a0_5 a1 = some true
theorem paybooklaw11_NoticeParties.walk (P : paybooklaw11_NoticeParties.Pure) (a0_0 : Int) (a0_1 : Int) (a0_2 : Int) (a0_3 : Int) (a0_4 : Int) (a0_5 : Int) (a1 : Int) (w : World) (w0_0 : (Lit.int .u8 a0_0).wf = true) (w0_1 : (Lit.int .i64 a0_1).wf = true) (w0_2 : (Lit.int .i64 a0_2).wf = true) (w0_3 : (Lit.int .i64 a0_3).wf = true) (w0_4 : (Lit.int .i64 a0_4).wf = true) (w0_5 : (Lit.int .u8 a0_5).wf = true) (w1 : (Lit.int .u8 a1).wf = true) :
  Calls Try.prog 3 #[.agg #[.int .u8 a0_0, .int .i64 a0_1, .int .i64 a0_2, .int .i64 a0_3, .int .i64 a0_4, .int .u8 a0_5], .int .u8 a1] w fun e w' => e = .returned (.bool true) ∧ Below w.heap.size w w' := by
 obtain ⟨k, h⟩ := P a0_0 a0_1 a0_2 a0_3 a0_4 a0_5 a1 w0_0 w0_1 w0_2 w0_3 w0_4 w0_5 w1
 refine (paybooklaw11_NoticeParties.calls k a0_0 a0_1 a0_2 a0_3 a0_4 a0_5 a1 w h).mono ?_
 rintro e w' ⟨rfl, hd⟩
 exact ⟨rfl, hd⟩

end Go.Proofs.Ytlbfmpjkdoecbaa.PA
