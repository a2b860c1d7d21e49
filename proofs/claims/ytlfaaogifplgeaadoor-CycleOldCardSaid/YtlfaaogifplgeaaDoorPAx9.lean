-- printed by this workplace: wip/patchprint.py over the kit's print
import Derived.Test.YtlfaaogifplgeaaDoorPAx0
import Derived.Test.YtlfaaogifplgeaaDoorPAx2
import Derived.Test.YtlfaaogifplgeaaDoorPAx4
import Derived.Test.YtlfaaogifplgeaaDoorPAx7
import Derived.Test.YtlfaaogifplgeaaDoorPAx8
namespace Go.Proofs.YtlfaaogifplgeaaDoor.PA
open Go.RowKit Go.Proofs.YtlfaaogifplgeaaDoorW.PrintWords Go.Proofs.YtlfaaogifplgeaaDoorW.PrintLast Go.Proofs.YtlfaaogifplgeaaDoorW.PrintMore
attribute [local go_sem] max2_int min2_int max_two min_two max_three min_three max_four min_four   -- for this text's walks alone
set_option linter.unusedVariables false
set_option linter.unusedSimpArgs false

attribute [local go_sem high] eqA28
/-! ### cycle_Hear: function 18 -/
def cycle_Hear.j0 : Nat → Int → Bool → Int → Bool → Int → Int → Int → Int → Int → Int → Int → Bool → Option (Int × Int × Int × Int × Int × Int × Int × Bool × Int)
 | 0, _, _, _, _, _, _, _, _, _, _, _, _ => none
 | k + 1, x3, x4, x12, x34, x136000, x136001, x136002, x136003, x136004, x136005, x136006, x136007 => if x34 = true then (some (x136000, x136001, x136002, x136003, x136004, x136005, x136006, x136007, 10)) else (if x136002 = 1 then ((cycle_charged.f x136000 x136001 x136002 x136003 x136004 x136005 x136006 x136007 x12 x3 x4).bind fun bt146 => (some (bt146.1, bt146.2.1, bt146.2.2.1, bt146.2.2.2.1, bt146.2.2.2.2.1, bt146.2.2.2.2.2.1, bt146.2.2.2.2.2.2.1, bt146.2.2.2.2.2.2.2, 0))) else (if x136002 = 3 then (if x12 = 1 then (if x4 = true then (some (x136000, x136001, 5, x136003, x136004, x136005, x136006, x136007, 0)) else (some (x136000, x136001, 4, x136003, x136004, x136005, x136006, x136007, 0))) else ((cycle_back.f x136000 x136001 x136002 x136003 x136004 x136005 x136006 x136007).bind fun bt154 => (some (bt154.1, bt154.2.1, bt154.2.2.1, bt154.2.2.2.1, bt154.2.2.2.2.1, bt154.2.2.2.2.2.1, bt154.2.2.2.2.2.2.1, bt154.2.2.2.2.2.2.2, 0)))) else (if x136002 = 4 then (if x12 = 1 then (some (x136000, x136001, 7, x136003, x136004, x136005, x136006, x136007, 0)) else (some (x136000, x136001, 5, x136003, x136004, x136005, x136006, x136007, 0))) else (if x136002 = 5 then ((cycle_back.f x136000 x136001 x136002 x136003 x136004 x136005 x136006 x136007).bind fun bt162 => (some (bt162.1, bt162.2.1, bt162.2.2.1, bt162.2.2.2.1, bt162.2.2.2.2.1, bt162.2.2.2.2.2.1, bt162.2.2.2.2.2.2.1, bt162.2.2.2.2.2.2.2, 0))) else (some (x136000, x136001, 9, x136003, x136004, x136005, x136006, x136007, 0))))))
def cycle_Hear.f (k : Nat) (a0 : Int) (a1_0 : Int) (a1_1 : Int) (a1_2 : Int) (a1_3 : Int) (a1_4 : Int) (a1_5 : Int) (a1_6 : Int) (a1_7 : Bool) (a2_0 : Int) (a2_1 : Int) (a2_2 : Int) (a2_3 : Int) (a2_4 : Int) (a2_5 : Int) (a3 : Int) (a4 : Bool) : Option (Int × Int × Int × Int × Int × Int × Int × Bool × Int) := (cycle_Asks.f a0 a1_0 a1_1 a1_2 a1_3 a1_4 a1_5 a1_6 a1_7).bind fun bt138 => (if bt138.2.2.2.2.2.2 = true then (if (!(bt138.1 == a2_0) || (!(bt138.2.1 == a2_1) || (!(bt138.2.2.1 == a2_2) || (!(bt138.2.2.2.1 == a2_3) || (!(bt138.2.2.2.2.1 == a2_4) || (!(bt138.2.2.2.2.2.1 == 0))))))) = true then (cycle_Hear.j0 k a3 a4 a2_5 true a1_0 a1_1 a1_2 a1_3 a1_4 a1_5 a1_6 a1_7) else (cycle_Hear.j0 k a3 a4 a2_5 (a2_5 == 0) a1_0 a1_1 a1_2 a1_3 a1_4 a1_5 a1_6 a1_7)) else (cycle_Hear.j0 k a3 a4 a2_5 true a1_0 a1_1 a1_2 a1_3 a1_4 a1_5 a1_6 a1_7))
theorem cycle_Hear.mono_l : ∀ k, (∀ y0 y1 y2 y3 y4 y5 y6 y7 y8 y9 y10 y11, LeO (cycle_Hear.j0 k y0 y1 y2 y3 y4 y5 y6 y7 y8 y9 y10 y11) (cycle_Hear.j0 (k + 1) y0 y1 y2 y3 y4 y5 y6 y7 y8 y9 y10 y11))
 | 0 => fun _ _ _ _ _ _ _ _ _ _ _ _ r h => by simp [cycle_Hear.j0] at h
 | k + 1 => by
  have ih0 := cycle_Hear.mono_l k
  ·intro y0 y1 y2 y3 y4 y5 y6 y7 y8 y9 y10 y11
   unfold cycle_Hear.j0
   repeat' first
   | (with_reducible exact ih0 _ _ _ _ _ _ _ _ _ _ _ _)
   | (with_reducible exact LeO.refl _)
   | (with_reducible exact LeO.none _)
   | (with_reducible refine LeO.ite ?_ ?_)
   | (with_reducible refine LeO.bind ?_ (fun _ => ?_))
   | exact ih0 _ _ _ _ _ _ _ _ _ _ _ _
   | exact LeO.none _
   | refine LeO.ite ?_ ?_
   | refine LeO.bind ?_ (fun _ => ?_)
theorem cycle_Hear.mono : ∀ a0 a1 a2 a3 a4 a5 a6 a7 a8 a9 a10 a11 a12 a13 a14 a15 a16 k, LeO (cycle_Hear.f k a0 a1 a2 a3 a4 a5 a6 a7 a8 a9 a10 a11 a12 a13 a14 a15 a16) (cycle_Hear.f (k + 1) a0 a1 a2 a3 a4 a5 a6 a7 a8 a9 a10 a11 a12 a13 a14 a15 a16) := by
 intro a0 a1 a2 a3 a4 a5 a6 a7 a8 a9 a10 a11 a12 a13 a14 a15 a16 k
 have ih0 := cycle_Hear.mono_l k
 unfold cycle_Hear.f
 repeat' first
   | (with_reducible exact ih0 _ _ _ _ _ _ _ _ _ _ _ _)
   | (with_reducible exact LeO.refl _)
   | (with_reducible exact LeO.none _)
   | (with_reducible refine LeO.ite ?_ ?_)
   | (with_reducible refine LeO.bind ?_ (fun _ => ?_))
   | exact ih0 _ _ _ _ _ _ _ _ _ _ _ _
   | exact LeO.none _
   | refine LeO.ite ?_ ?_
   | refine LeO.bind ?_ (fun _ => ?_)
set_option maxHeartbeats 40000000 in
set_option maxRecDepth 100000 in
theorem cycle_Hear.calls (k : Nat) (a0 : Int) (a1_0 : Int) (a1_1 : Int) (a1_2 : Int) (a1_3 : Int) (a1_4 : Int) (a1_5 : Int) (a1_6 : Int) (a1_7 : Bool) (a2_0 : Int) (a2_1 : Int) (a2_2 : Int) (a2_3 : Int) (a2_4 : Int) (a2_5 : Int) (a3 : Int) (a4 : Bool) (r1 : Int) (r2 : Int) (r3 : Int) (r4 : Int) (r5 : Int) (r6 : Int) (r7 : Int) (r8 : Bool) (r9 : Int) (w : World) (hrG0 : Kd.C (Kd.int .i64) w (some ⟨0, 0, none⟩) 3 gl0) (h : cycle_Hear.f k a0 a1_0 a1_1 a1_2 a1_3 a1_4 a1_5 a1_6 a1_7 a2_0 a2_1 a2_2 a2_3 a2_4 a2_5 a3 a4 = some (r1, r2, r3, r4, r5, r6, r7, r8, r9)) :
  Calls Tryd.prog 18 #[.int .i64 a0, .agg #[.int .i64 a1_0, .int .i64 a1_1, .int .u8 a1_2, .int .i64 a1_3, .int .i64 a1_4, .int .i64 a1_5, .int .i64 a1_6, .bool a1_7], .agg #[.int .u8 a2_0, .int .i64 a2_1, .int .i64 a2_2, .int .i64 a2_3, .int .i64 a2_4, .int .u8 a2_5], .int .i64 a3, .bool a4] w fun e w' => e = .returned (.tuple #[.agg #[.int .i64 r1, .int .i64 r2, .int .u8 r3, .int .i64 r4, .int .i64 r5, .int .i64 r6, .int .i64 r7, .bool r8], .int .i64 r9]) ∧ Below w.heap.size w w' := by
 have hu25 := Tryd.underlying25
 have hu28 := Tryd.underlying28
 have HRG0 := Aside0.mk hrG0
 clear hrG0
 have HB := Aside0.mk (Below.refl w.heap.size w)
 have H : ((cycle_Asks.f a0 a1_0 a1_1 a1_2 a1_3 a1_4 a1_5 a1_6 a1_7).bind fun bt138 => (if bt138.2.2.2.2.2.2 = true then (if (!(bt138.1 == a2_0) || (!(bt138.2.1 == a2_1) || (!(bt138.2.2.1 == a2_2) || (!(bt138.2.2.2.1 == a2_3) || (!(bt138.2.2.2.2.1 == a2_4) || (!(bt138.2.2.2.2.2.1 == 0))))))) = true then (cycle_Hear.j0 k a3 a4 a2_5 true a1_0 a1_1 a1_2 a1_3 a1_4 a1_5 a1_6 a1_7) else (cycle_Hear.j0 k a3 a4 a2_5 (a2_5 == 0) a1_0 a1_1 a1_2 a1_3 a1_4 a1_5 a1_6 a1_7)) else (cycle_Hear.j0 k a3 a4 a2_5 true a1_0 a1_1 a1_2 a1_3 a1_4 a1_5 a1_6 a1_7))) = some (r1, r2, r3, r4, r5, r6, r7, r8, r9) := h
 clear h
 replace H := Option.bind_eq_some_iff.mp H
 obtain ⟨⟨t138, t139, t140, t141, t142, t143, t144⟩, A60, H⟩ := H
 replace H : (if t144 = true then (if (!(t138 == a2_0) || (!(t139 == a2_1) || (!(t140 == a2_2) || (!(t141 == a2_3) || (!(t142 == a2_4) || (!(t143 == 0))))))) = true then (cycle_Hear.j0 k a3 a4 a2_5 true a1_0 a1_1 a1_2 a1_3 a1_4 a1_5 a1_6 a1_7) else (cycle_Hear.j0 k a3 a4 a2_5 (a2_5 == 0) a1_0 a1_1 a1_2 a1_3 a1_4 a1_5 a1_6 a1_7)) else (cycle_Hear.j0 k a3 a4 a2_5 true a1_0 a1_1 a1_2 a1_3 a1_4 a1_5 a1_6 a1_7)) = some (r1, r2, r3, r4, r5, r6, r7, r8, r9) := H
 have A6 := Aside0.mk A60
 clear A60
 have HC7 := Aside0.mk H
 clear H
 go_enter Tryd.func18, Tryd.ntmps18
 go_upto_region 4 with (first | ((with_reducible refine gate_dst (N := 6) rfl ?_); refine box_event ?hg (N := 6) ?hd (cs := #[.int .i64 a1_0, .int .i64 a1_1, .int .u8 a1_2, .int .i64 a1_3, .int .i64 a1_4, .int .i64 a1_5, .int .i64 a1_6, .bool a1_7]) (t := 25) ?hr ?_; (case hd => rfl); (case hg => rfl); (case hr => first | (go_simp; done) | (go_simp; rfl)); intro gb135 hg w8 hbox hb; have n0_ := Aside0.mk (below_step (by repeat (first | (with_reducible first | exact HB.out | apply kL | apply kM | apply kE) | exact HB.out)) hb); have n1_ := Aside0.mk (hbox); have n2_ := Aside0.mk ((by rw [hg]; exact (below_size (by repeat (first | (with_reducible first | exact HB.out | apply kL | apply kM | apply kE) | exact HB.out))) : w.heap.size ≤ gb135)); have n3_ := Aside0.mk ((by rw [hg]; exact (below_size (by repeat (first | (with_reducible first | exact HB.out | apply kL | apply kM | apply kE) | exact HB.out))) : w.heap.size ≤ gb135)); clear HB; have HB := n0_; have BK135 := n1_; have GW135 := n2_; have GE135 := n3_; clear n0_ n1_ n2_ n3_; clear hb hbox hg) | ((with_reducible refine gate_dst (N := 7) rfl ?_); refine box_event ?hg (N := 7) ?hd (cs := #[.int .u8 a2_0, .int .i64 a2_1, .int .i64 a2_2, .int .i64 a2_3, .int .i64 a2_4, .int .u8 a2_5]) (t := 28) ?hr ?_; (case hd => rfl); (case hg => rfl); (case hr => first | (go_simp; done) | (go_simp; rfl)); intro gb136 hg w9 hbox hb; have n0_ := Aside0.mk (blk_below (g := gb135) (o := .cells #[.int .i64 a1_0, .int .i64 a1_1, .int .u8 a1_2, .int .i64 a1_3, .int .i64 a1_4, .int .i64 a1_5, .int .i64 a1_6, .bool a1_7] 25 (0, 0)) (by (with_reducible repeat (first | refine kN ?_ _ | refine kD ?_ | refine kA ?_ _)); exact BK135.out) hb); have n1_ := Aside0.mk (below_step (by repeat (first | (with_reducible first | exact HB.out | apply kL | apply kM | apply kE | refine kS ?_ GE135.out) | exact HB.out)) hb); have n2_ := Aside0.mk (hbox); have n3_ := Aside0.mk ((by rw [hg]; exact (below_size (by repeat (first | (with_reducible first | exact HB.out | apply kL | apply kM | apply kE | refine kS ?_ GE135.out) | exact HB.out))) : w.heap.size ≤ gb136)); have n4_ := Aside0.mk ((by rw [hg]; exact (below_size (by repeat (first | (with_reducible first | exact HB.out | apply kL | apply kM | apply kE | refine kS ?_ GE135.out) | exact HB.out))) : w.heap.size ≤ gb136)); have n5_ := Aside0.mk ((by rw [hg]; exact Nat.ne_of_lt (blk_lt (g := gb135) (o := .cells #[.int .i64 a1_0, .int .i64 a1_1, .int .u8 a1_2, .int .i64 a1_3, .int .i64 a1_4, .int .i64 a1_5, .int .i64 a1_6, .bool a1_7] 25 (0, 0)) (by (with_reducible repeat (first | refine kN ?_ _ | refine kD ?_ | refine kA ?_ _)); exact BK135.out)) : gb135 ≠ gb136)); have n6_ := Aside0.mk ((by rw [hg]; exact Nat.ne_of_gt (blk_lt (g := gb135) (o := .cells #[.int .i64 a1_0, .int .i64 a1_1, .int .u8 a1_2, .int .i64 a1_3, .int .i64 a1_4, .int .i64 a1_5, .int .i64 a1_6, .bool a1_7] 25 (0, 0)) (by (with_reducible repeat (first | refine kN ?_ _ | refine kD ?_ | refine kA ?_ _)); exact BK135.out)) : gb136 ≠ gb135)); clear BK135; clear HB; have BK135 := n0_; have HB := n1_; have BK136 := n2_; have GW136 := n3_; have GE136 := n4_; have NB135_136 := n5_; have NB136_135 := n6_; clear n0_ n1_ n2_ n3_ n4_ n5_ n6_; clear hb hbox hg) | ((with_reducible refine gate_dst (N := 10) rfl ?_); refine box_event ?hg (N := 10) ?hd (cs := #[.int .i64 0, .int .i64 0, .int .u8 0, .int .i64 0, .int .i64 0, .int .i64 0, .int .i64 0, .bool false]) (t := 25) ?hr ?_; (case hd => rfl); (case hg => rfl); (case hr => first | (go_simp; done) | (go_simp; rfl)); intro gb137 hg w10 hbox hb; have n0_ := Aside0.mk (blk_below (g := gb135) (o := .cells #[.int .i64 a1_0, .int .i64 a1_1, .int .u8 a1_2, .int .i64 a1_3, .int .i64 a1_4, .int .i64 a1_5, .int .i64 a1_6, .bool a1_7] 25 (0, 0)) (by (with_reducible repeat (first | refine kN ?_ _ | refine kD ?_ | refine kA ?_ _)); exact BK135.out) hb); have n1_ := Aside0.mk (blk_below (g := gb136) (o := .cells #[.int .u8 a2_0, .int .i64 a2_1, .int .i64 a2_2, .int .i64 a2_3, .int .i64 a2_4, .int .u8 a2_5] 28 (0, 0)) (by (with_reducible repeat (first | refine kN ?_ _ | refine kD ?_ | refine kA ?_ _)); exact BK136.out) hb); have n2_ := Aside0.mk (below_step (by repeat (first | (with_reducible first | exact HB.out | apply kL | apply kM | apply kE | refine kS ?_ GE135.out | refine kS ?_ GE136.out) | exact HB.out)) hb); have n3_ := Aside0.mk (hbox); have n4_ := Aside0.mk ((by rw [hg]; exact (below_size (by repeat (first | (with_reducible first | exact HB.out | apply kL | apply kM | apply kE | refine kS ?_ GE135.out | refine kS ?_ GE136.out) | exact HB.out))) : w.heap.size ≤ gb137)); have n5_ := Aside0.mk ((by rw [hg]; exact (below_size (by repeat (first | (with_reducible first | exact HB.out | apply kL | apply kM | apply kE | refine kS ?_ GE135.out | refine kS ?_ GE136.out) | exact HB.out))) : w.heap.size ≤ gb137)); have n6_ := Aside0.mk ((by rw [hg]; exact Nat.ne_of_lt (blk_lt (g := gb135) (o := .cells #[.int .i64 a1_0, .int .i64 a1_1, .int .u8 a1_2, .int .i64 a1_3, .int .i64 a1_4, .int .i64 a1_5, .int .i64 a1_6, .bool a1_7] 25 (0, 0)) (by (with_reducible repeat (first | refine kN ?_ _ | refine kD ?_ | refine kA ?_ _)); exact BK135.out)) : gb135 ≠ gb137)); have n7_ := Aside0.mk ((by rw [hg]; exact Nat.ne_of_gt (blk_lt (g := gb135) (o := .cells #[.int .i64 a1_0, .int .i64 a1_1, .int .u8 a1_2, .int .i64 a1_3, .int .i64 a1_4, .int .i64 a1_5, .int .i64 a1_6, .bool a1_7] 25 (0, 0)) (by (with_reducible repeat (first | refine kN ?_ _ | refine kD ?_ | refine kA ?_ _)); exact BK135.out)) : gb137 ≠ gb135)); have n8_ := Aside0.mk ((by rw [hg]; exact Nat.ne_of_lt (blk_lt (g := gb136) (o := .cells #[.int .u8 a2_0, .int .i64 a2_1, .int .i64 a2_2, .int .i64 a2_3, .int .i64 a2_4, .int .u8 a2_5] 28 (0, 0)) (by (with_reducible repeat (first | refine kN ?_ _ | refine kD ?_ | refine kA ?_ _)); exact BK136.out)) : gb136 ≠ gb137)); have n9_ := Aside0.mk ((by rw [hg]; exact Nat.ne_of_gt (blk_lt (g := gb136) (o := .cells #[.int .u8 a2_0, .int .i64 a2_1, .int .i64 a2_2, .int .i64 a2_3, .int .i64 a2_4, .int .u8 a2_5] 28 (0, 0)) (by (with_reducible repeat (first | refine kN ?_ _ | refine kD ?_ | refine kA ?_ _)); exact BK136.out)) : gb137 ≠ gb136)); clear BK135; clear BK136; clear HB; have BK135 := n0_; have BK136 := n1_; have HB := n2_; have BK137 := n3_; have GW137 := n4_; have GE137 := n5_; have NB135_137 := n6_; have NB137_135 := n7_; have NB136_137 := n8_; have NB137_136 := n9_; clear n0_ n1_ n2_ n3_ n4_ n5_ n6_ n7_ n8_ n9_; clear hb hbox hg; have hnb11 := NB136_135.out; have hnc11 := NB135_136.out; have hnb12 := NB136_137.out; have hnc12 := NB137_136.out; have hcz13_0 : w10.cell? ⟨gb136, 0, none⟩ = some (.int .u8 a2_0) := (kC BK136.out 0).trans rfl; have hcz13_1 : w10.cell? ⟨gb136, 1, none⟩ = some (.int .i64 a2_1) := (kC BK136.out 1).trans rfl; have hcz13_2 : w10.cell? ⟨gb136, 2, none⟩ = some (.int .i64 a2_2) := (kC BK136.out 2).trans rfl; have hcz13_3 : w10.cell? ⟨gb136, 3, none⟩ = some (.int .i64 a2_3) := (kC BK136.out 3).trans rfl; have hcz13_4 : w10.cell? ⟨gb136, 4, none⟩ = some (.int .i64 a2_4) := (kC BK136.out 4).trans rfl; have hcz13_5 : w10.cell? ⟨gb136, 5, none⟩ = some (.int .u8 a2_5) := (kC BK136.out 5).trans rfl; have hfz13_0 := kF BK136.out 0; have hfz13_1 := kF BK136.out 1; have hfz13_2 := kF BK136.out 2; have hfz13_3 := kF BK136.out 3; have hfz13_4 := kF BK136.out 4; have hfz13_5 := kF BK136.out 5; have hnb14 := NB135_137.out; have hnc14 := NB137_135.out; have hcz15_0 : w10.cell? ⟨gb135, 0, none⟩ = some (.int .i64 a1_0) := (kC BK135.out 0).trans rfl; have hcz15_1 : w10.cell? ⟨gb135, 1, none⟩ = some (.int .i64 a1_1) := (kC BK135.out 1).trans rfl; have hcz15_2 : w10.cell? ⟨gb135, 2, none⟩ = some (.int .u8 a1_2) := (kC BK135.out 2).trans rfl; have hcz15_3 : w10.cell? ⟨gb135, 3, none⟩ = some (.int .i64 a1_3) := (kC BK135.out 3).trans rfl; have hcz15_4 : w10.cell? ⟨gb135, 4, none⟩ = some (.int .i64 a1_4) := (kC BK135.out 4).trans rfl; have hcz15_5 : w10.cell? ⟨gb135, 5, none⟩ = some (.int .i64 a1_5) := (kC BK135.out 5).trans rfl; have hcz15_6 : w10.cell? ⟨gb135, 6, none⟩ = some (.int .i64 a1_6) := (kC BK135.out 6).trans rfl; have hcz15_7 : w10.cell? ⟨gb135, 7, none⟩ = some (.bool a1_7) := (kC BK135.out 7).trans rfl; have hfz15_0 := kF BK135.out 0; have hfz15_1 := kF BK135.out 1; have hfz15_2 := kF BK135.out 2; have hfz15_3 := kF BK135.out 3; have hfz15_4 := kF BK135.out 4; have hfz15_5 := kF BK135.out 5; have hfz15_6 := kF BK135.out 6; have hfz15_7 := kF BK135.out 7) | ((with_reducible refine gate_callee (f := 13) rfl ?_); refine goesL_ (some 21) rfl rfl Tryd.func13 (by kernel_rfl) rfl #[.int .i64 a0, .agg #[.int .i64 a1_0, .int .i64 a1_1, .int .u8 a1_2, .int .i64 a1_3, .int .i64 a1_4, .int .i64 a1_5, .int .i64 a1_6, .bool a1_7]] rfl (by (try simp only [List.map_toArray, List.map_cons, List.map_nil]); first | done | rfl | (simp only [List.length_drop, List.length_take]; rfl)) ?_; (with_reducible refine (cycle_Asks.calls a0 a1_0 a1_1 a1_2 a1_3 a1_4 a1_5 a1_6 a1_7 t138 t139 t140 t141 t142 t143 t144 _ A6.out).mono ?_); rintro e w16 ⟨rfl, hb⟩; refine ⟨_, rfl, ?_⟩; have n0_ := Aside0.mk (blk_below (g := gb135) (o := .cells #[.int .i64 a1_0, .int .i64 a1_1, .int .u8 a1_2, .int .i64 a1_3, .int .i64 a1_4, .int .i64 a1_5, .int .i64 a1_6, .bool a1_7] 25 (0, 0)) (by (with_reducible repeat (first | refine kN ?_ _ | refine kD ?_ | refine kA ?_ _)); refine kR ?_ NB135_136.out _; (with_reducible repeat (first | refine kN ?_ _ | refine kD ?_ | refine kA ?_ _)); exact BK135.out) hb); have n1_ := Aside0.mk (blk_below (g := gb136) (o := .cells #[.int .u8 a2_0, .int .i64 a2_1, .int .i64 a2_2, .int .i64 a2_3, .int .i64 a2_4, .int .u8 0] 28 (0, 0)) (by (with_reducible repeat (first | refine kN ?_ _ | refine kD ?_ | refine kA ?_ _)); refine kP (cs := #[.int .u8 a2_0, .int .i64 a2_1, .int .i64 a2_2, .int .i64 a2_3, .int .i64 a2_4, .int .u8 a2_5]) ?_ 5 _ rfl; (with_reducible repeat (first | refine kN ?_ _ | refine kD ?_ | refine kA ?_ _)); exact BK136.out) hb); have n2_ := Aside0.mk (blk_below (g := gb137) (o := .cells #[.int .i64 0, .int .i64 0, .int .u8 0, .int .i64 0, .int .i64 0, .int .i64 0, .int .i64 0, .bool false] 25 (0, 0)) (by (with_reducible repeat (first | refine kN ?_ _ | refine kD ?_ | refine kA ?_ _)); refine kR ?_ NB137_136.out _; (with_reducible repeat (first | refine kN ?_ _ | refine kD ?_ | refine kA ?_ _)); exact BK137.out) hb); have n3_ := Aside0.mk (below_step (by repeat (first | (with_reducible first | exact HB.out | apply kL | apply kM | apply kE | refine kS ?_ GE135.out | refine kS ?_ GE136.out | refine kS ?_ GE137.out) | exact HB.out)) hb); clear BK135; clear BK136; clear BK137; clear HB; have BK135 := n0_; have BK136 := n1_; have BK137 := n2_; have HB := n3_; clear n0_ n1_ n2_ n3_; (try clear hb); (try clear hb2); (try clear hk); (try clear hi)) | ((with_reducible refine gate_dst (N := 13) rfl ?_); refine box_event ?hg (N := 13) ?hd (cs := #[.int .u8 0, .int .i64 0, .int .i64 0, .int .i64 0, .int .i64 0, .int .u8 0]) (t := 28) ?hr ?_; (case hd => rfl); (case hg => rfl); (case hr => first | (go_simp; done) | (go_simp; rfl)); intro gb145 hg w17 hbox hb; have n0_ := Aside0.mk (blk_below (g := gb135) (o := .cells #[.int .i64 a1_0, .int .i64 a1_1, .int .u8 a1_2, .int .i64 a1_3, .int .i64 a1_4, .int .i64 a1_5, .int .i64 a1_6, .bool a1_7] 25 (0, 0)) (by (with_reducible repeat (first | refine kN ?_ _ | refine kD ?_ | refine kA ?_ _)); exact BK135.out) hb); have n1_ := Aside0.mk (blk_below (g := gb136) (o := .cells #[.int .u8 a2_0, .int .i64 a2_1, .int .i64 a2_2, .int .i64 a2_3, .int .i64 a2_4, .int .u8 0] 28 (0, 0)) (by (with_reducible repeat (first | refine kN ?_ _ | refine kD ?_ | refine kA ?_ _)); exact BK136.out) hb); have n2_ := Aside0.mk (blk_below (g := gb137) (o := .cells #[.int .i64 0, .int .i64 0, .int .u8 0, .int .i64 0, .int .i64 0, .int .i64 0, .int .i64 0, .bool false] 25 (0, 0)) (by (with_reducible repeat (first | refine kN ?_ _ | refine kD ?_ | refine kA ?_ _)); exact BK137.out) hb); have n3_ := Aside0.mk (below_step (by repeat (first | (with_reducible first | exact HB.out | apply kL | apply kM | apply kE | refine kS ?_ GE135.out | refine kS ?_ GE136.out | refine kS ?_ GE137.out) | exact HB.out)) hb); have n4_ := Aside0.mk (hbox); have n5_ := Aside0.mk ((by rw [hg]; exact (below_size (by repeat (first | (with_reducible first | exact HB.out | apply kL | apply kM | apply kE | refine kS ?_ GE135.out | refine kS ?_ GE136.out | refine kS ?_ GE137.out) | exact HB.out))) : w.heap.size ≤ gb145)); have n6_ := Aside0.mk ((by rw [hg]; exact (below_size (by repeat (first | (with_reducible first | exact HB.out | apply kL | apply kM | apply kE | refine kS ?_ GE135.out | refine kS ?_ GE136.out | refine kS ?_ GE137.out) | exact HB.out))) : w.heap.size ≤ gb145)); have n7_ := Aside0.mk ((by rw [hg]; exact Nat.ne_of_lt (blk_lt (g := gb135) (o := .cells #[.int .i64 a1_0, .int .i64 a1_1, .int .u8 a1_2, .int .i64 a1_3, .int .i64 a1_4, .int .i64 a1_5, .int .i64 a1_6, .bool a1_7] 25 (0, 0)) (by (with_reducible repeat (first | refine kN ?_ _ | refine kD ?_ | refine kA ?_ _)); exact BK135.out)) : gb135 ≠ gb145)); have n8_ := Aside0.mk ((by rw [hg]; exact Nat.ne_of_gt (blk_lt (g := gb135) (o := .cells #[.int .i64 a1_0, .int .i64 a1_1, .int .u8 a1_2, .int .i64 a1_3, .int .i64 a1_4, .int .i64 a1_5, .int .i64 a1_6, .bool a1_7] 25 (0, 0)) (by (with_reducible repeat (first | refine kN ?_ _ | refine kD ?_ | refine kA ?_ _)); exact BK135.out)) : gb145 ≠ gb135)); have n9_ := Aside0.mk ((by rw [hg]; exact Nat.ne_of_lt (blk_lt (g := gb136) (o := .cells #[.int .u8 a2_0, .int .i64 a2_1, .int .i64 a2_2, .int .i64 a2_3, .int .i64 a2_4, .int .u8 0] 28 (0, 0)) (by (with_reducible repeat (first | refine kN ?_ _ | refine kD ?_ | refine kA ?_ _)); exact BK136.out)) : gb136 ≠ gb145)); have n10_ := Aside0.mk ((by rw [hg]; exact Nat.ne_of_gt (blk_lt (g := gb136) (o := .cells #[.int .u8 a2_0, .int .i64 a2_1, .int .i64 a2_2, .int .i64 a2_3, .int .i64 a2_4, .int .u8 0] 28 (0, 0)) (by (with_reducible repeat (first | refine kN ?_ _ | refine kD ?_ | refine kA ?_ _)); exact BK136.out)) : gb145 ≠ gb136)); have n11_ := Aside0.mk ((by rw [hg]; exact Nat.ne_of_lt (blk_lt (g := gb137) (o := .cells #[.int .i64 0, .int .i64 0, .int .u8 0, .int .i64 0, .int .i64 0, .int .i64 0, .int .i64 0, .bool false] 25 (0, 0)) (by (with_reducible repeat (first | refine kN ?_ _ | refine kD ?_ | refine kA ?_ _)); exact BK137.out)) : gb137 ≠ gb145)); have n12_ := Aside0.mk ((by rw [hg]; exact Nat.ne_of_gt (blk_lt (g := gb137) (o := .cells #[.int .i64 0, .int .i64 0, .int .u8 0, .int .i64 0, .int .i64 0, .int .i64 0, .int .i64 0, .bool false] 25 (0, 0)) (by (with_reducible repeat (first | refine kN ?_ _ | refine kD ?_ | refine kA ?_ _)); exact BK137.out)) : gb145 ≠ gb137)); clear BK135; clear BK136; clear BK137; clear HB; have BK135 := n0_; have BK136 := n1_; have BK137 := n2_; have HB := n3_; have BK145 := n4_; have GW145 := n5_; have GE145 := n6_; have NB135_145 := n7_; have NB145_135 := n8_; have NB136_145 := n9_; have NB145_136 := n10_; have NB137_145 := n11_; have NB145_137 := n12_; clear n0_ n1_ n2_ n3_ n4_ n5_ n6_ n7_ n8_ n9_ n10_ n11_ n12_; clear hb hbox hg; have hnb18 := NB145_135.out; have hnc18 := NB135_145.out; have hnb19 := NB145_136.out; have hnc19 := NB136_145.out; have hnb20 := NB145_137.out; have hnc20 := NB137_145.out; have hcz21_0 : w17.cell? ⟨gb145, 0, none⟩ = some (.int .u8 0) := (kC BK145.out 0).trans rfl; have hcz21_1 : w17.cell? ⟨gb145, 1, none⟩ = some (.int .i64 0) := (kC BK145.out 1).trans rfl; have hcz21_2 : w17.cell? ⟨gb145, 2, none⟩ = some (.int .i64 0) := (kC BK145.out 2).trans rfl; have hcz21_3 : w17.cell? ⟨gb145, 3, none⟩ = some (.int .i64 0) := (kC BK145.out 3).trans rfl; have hcz21_4 : w17.cell? ⟨gb145, 4, none⟩ = some (.int .i64 0) := (kC BK145.out 4).trans rfl; have hcz21_5 : w17.cell? ⟨gb145, 5, none⟩ = some (.int .u8 0) := (kC BK145.out 5).trans rfl; have hfz21_0 := kF BK145.out 0; have hfz21_1 := kF BK145.out 1; have hfz21_2 := kF BK145.out 2; have hfz21_3 := kF BK145.out 3; have hfz21_4 := kF BK145.out 4; have hfz21_5 := kF BK145.out 5))
 (try simp only [Act.put, List.setIfInBounds_toArray, List.set_cons_zero, List.set_cons_succ])
 go_cut [34] (fun v34 wc => ∃ (kq : Nat) (x34_6 : Bool), v34 = .bool x34_6 ∧ Aside0 (cycle_Hear.j0 kq a3 a4 a2_5 x34_6 a1_0 a1_1 a1_2 a1_3 a1_4 a1_5 a1_6 a1_7 = some (r1, r2, r3, r4, r5, r6, r7, r8, r9)) ∧ Aside0 (kq ≤ k) ∧ Aside0 (wc.heap[gb135]? = some (.cells #[.int .i64 a1_0, .int .i64 a1_1, .int .u8 a1_2, .int .i64 a1_3, .int .i64 a1_4, .int .i64 a1_5, .int .i64 a1_6, .bool a1_7] 25 (0, 0))) ∧ Aside0 (wc.heap[gb136]? = some (.cells #[.int .u8 a2_0, .int .i64 a2_1, .int .i64 a2_2, .int .i64 a2_3, .int .i64 a2_4, .int .u8 0] 28 (0, 0))) ∧ Aside0 (wc.heap[gb137]? = some (.cells #[.int .i64 0, .int .i64 0, .int .u8 0, .int .i64 0, .int .i64 0, .int .i64 0, .int .i64 0, .bool false] 25 (0, 0))) ∧ Aside0 (wc.heap[gb145]? = some (.cells #[.int .u8 t138, .int .i64 t139, .int .i64 t140, .int .i64 t141, .int .i64 t142, .int .u8 t143] 28 (0, 0))) ∧ Aside0 (Below w.heap.size w wc))
 case first =>
  have H := HC7.out
  clear HC7
  by_cases c22 : t144 = true
  ·subst c22
   have H1 : (if (!(t138 == a2_0) || (!(t139 == a2_1) || (!(t140 == a2_2) || (!(t141 == a2_3) || (!(t142 == a2_4) || (!(t143 == 0))))))) = true then (cycle_Hear.j0 k a3 a4 a2_5 true a1_0 a1_1 a1_2 a1_3 a1_4 a1_5 a1_6 a1_7) else (cycle_Hear.j0 k a3 a4 a2_5 (a2_5 == 0) a1_0 a1_1 a1_2 a1_3 a1_4 a1_5 a1_6 a1_7)) = some (r1, r2, r3, r4, r5, r6, r7, r8, r9) := by rw [if_pos rfl] at H; try exact H
   clear H
   have H := H1
   clear H1
   by_cases c23 : (!(t138 == a2_0) || (!(t139 == a2_1) || (!(t140 == a2_2) || (!(t141 == a2_3) || (!(t142 == a2_4) || (!(t143 == 0))))))) = true
   ·rw [if_pos c23] at H
    have c23b0 : (!(t138 == a2_0) || (!(t139 == a2_1) || (!(t140 == a2_2) || (!(t141 == a2_3) || (!(t142 == a2_4) || (!(t143 == 0))))))) = true := c23
    clear c23
    (first | (generalize hg_ : (!(t138 == a2_0) || (!(t139 == a2_1) || (!(t140 == a2_2) || (!(t141 == a2_3) || (!(t142 == a2_4) || (!(t143 == 0))))))) = bg_ at *; subst c23b0; have c23b0 := hg_; clear hg_) | rw [c23b0] | (simp only [i64_w, i32_w]; rw [c23b0]) | skip)
    have H' := Aside0.mk H
    clear H
    have hnb24 := NB145_135.out
    have hnc24 := NB135_145.out
    have hnb25 := NB145_136.out
    have hnc25 := NB136_145.out
    have hnb26 := NB145_137.out
    have hnc26 := NB137_145.out
    have hcz27_0 : w17.cell? ⟨gb145, 0, none⟩ = some (.int .u8 0) := (kC BK145.out 0).trans rfl
    have hcz27_1 : w17.cell? ⟨gb145, 1, none⟩ = some (.int .i64 0) := (kC BK145.out 1).trans rfl
    have hcz27_2 : w17.cell? ⟨gb145, 2, none⟩ = some (.int .i64 0) := (kC BK145.out 2).trans rfl
    have hcz27_3 : w17.cell? ⟨gb145, 3, none⟩ = some (.int .i64 0) := (kC BK145.out 3).trans rfl
    have hcz27_4 : w17.cell? ⟨gb145, 4, none⟩ = some (.int .i64 0) := (kC BK145.out 4).trans rfl
    have hcz27_5 : w17.cell? ⟨gb145, 5, none⟩ = some (.int .u8 0) := (kC BK145.out 5).trans rfl
    have hfz27_0 := kF BK145.out 0
    have hfz27_1 := kF BK145.out 1
    have hfz27_2 := kF BK145.out 2
    have hfz27_3 := kF BK145.out 3
    have hfz27_4 := kF BK145.out 4
    have hfz27_5 := kF BK145.out 5
    have hnb28 := NB136_135.out
    have hnc28 := NB135_136.out
    have hnb29 := NB136_137.out
    have hnc29 := NB137_136.out
    have hcz30_0 : w17.cell? ⟨gb136, 0, none⟩ = some (.int .u8 a2_0) := (kC BK136.out 0).trans rfl
    have hcz30_1 : w17.cell? ⟨gb136, 1, none⟩ = some (.int .i64 a2_1) := (kC BK136.out 1).trans rfl
    have hcz30_2 : w17.cell? ⟨gb136, 2, none⟩ = some (.int .i64 a2_2) := (kC BK136.out 2).trans rfl
    have hcz30_3 : w17.cell? ⟨gb136, 3, none⟩ = some (.int .i64 a2_3) := (kC BK136.out 3).trans rfl
    have hcz30_4 : w17.cell? ⟨gb136, 4, none⟩ = some (.int .i64 a2_4) := (kC BK136.out 4).trans rfl
    have hcz30_5 : w17.cell? ⟨gb136, 5, none⟩ = some (.int .u8 0) := (kC BK136.out 5).trans rfl
    have hfz30_0 := kF BK136.out 0
    have hfz30_1 := kF BK136.out 1
    have hfz30_2 := kF BK136.out 2
    have hfz30_3 := kF BK136.out 3
    have hfz30_4 := kF BK136.out 4
    have hfz30_5 := kF BK136.out 5
    go_wp2
    go_meet
    case rel => exact ⟨_, (true), (by first | rfl | (simp; done) | (simp [*]; done)), H', ⟨by first | omega | exact Nat.le_refl _⟩, ⟨by (with_reducible repeat (first | refine kN ?_ _ | refine kD ?_ | refine kA ?_ _)); refine kR ?_ NB135_145.out _; (with_reducible repeat (first | refine kN ?_ _ | refine kD ?_ | refine kA ?_ _)); refine kR ?_ NB135_145.out _; (with_reducible repeat (first | refine kN ?_ _ | refine kD ?_ | refine kA ?_ _)); refine kR ?_ NB135_145.out _; (with_reducible repeat (first | refine kN ?_ _ | refine kD ?_ | refine kA ?_ _)); refine kR ?_ NB135_145.out _; (with_reducible repeat (first | refine kN ?_ _ | refine kD ?_ | refine kA ?_ _)); refine kR ?_ NB135_145.out _; (with_reducible repeat (first | refine kN ?_ _ | refine kD ?_ | refine kA ?_ _)); refine kR ?_ NB135_145.out _; (with_reducible repeat (first | refine kN ?_ _ | refine kD ?_ | refine kA ?_ _)); exact BK135.out⟩, ⟨by (with_reducible repeat (first | refine kN ?_ _ | refine kD ?_ | refine kA ?_ _)); refine kR ?_ NB136_145.out _; (with_reducible repeat (first | refine kN ?_ _ | refine kD ?_ | refine kA ?_ _)); refine kR ?_ NB136_145.out _; (with_reducible repeat (first | refine kN ?_ _ | refine kD ?_ | refine kA ?_ _)); refine kR ?_ NB136_145.out _; (with_reducible repeat (first | refine kN ?_ _ | refine kD ?_ | refine kA ?_ _)); refine kR ?_ NB136_145.out _; (with_reducible repeat (first | refine kN ?_ _ | refine kD ?_ | refine kA ?_ _)); refine kR ?_ NB136_145.out _; (with_reducible repeat (first | refine kN ?_ _ | refine kD ?_ | refine kA ?_ _)); refine kR ?_ NB136_145.out _; (with_reducible repeat (first | refine kN ?_ _ | refine kD ?_ | refine kA ?_ _)); exact BK136.out⟩, ⟨by (with_reducible repeat (first | refine kN ?_ _ | refine kD ?_ | refine kA ?_ _)); refine kR ?_ NB137_145.out _; (with_reducible repeat (first | refine kN ?_ _ | refine kD ?_ | refine kA ?_ _)); refine kR ?_ NB137_145.out _; (with_reducible repeat (first | refine kN ?_ _ | refine kD ?_ | refine kA ?_ _)); refine kR ?_ NB137_145.out _; (with_reducible repeat (first | refine kN ?_ _ | refine kD ?_ | refine kA ?_ _)); refine kR ?_ NB137_145.out _; (with_reducible repeat (first | refine kN ?_ _ | refine kD ?_ | refine kA ?_ _)); refine kR ?_ NB137_145.out _; (with_reducible repeat (first | refine kN ?_ _ | refine kD ?_ | refine kA ?_ _)); refine kR ?_ NB137_145.out _; (with_reducible repeat (first | refine kN ?_ _ | refine kD ?_ | refine kA ?_ _)); exact BK137.out⟩, ⟨by (with_reducible repeat (first | refine kN ?_ _ | refine kD ?_ | refine kA ?_ _)); refine kP (cs := #[.int .u8 t138, .int .i64 t139, .int .i64 t140, .int .i64 t141, .int .i64 t142, .int .u8 0]) ?_ 5 _ rfl; (with_reducible repeat (first | refine kN ?_ _ | refine kD ?_ | refine kA ?_ _)); refine kP (cs := #[.int .u8 t138, .int .i64 t139, .int .i64 t140, .int .i64 t141, .int .i64 0, .int .u8 0]) ?_ 4 _ rfl; (with_reducible repeat (first | refine kN ?_ _ | refine kD ?_ | refine kA ?_ _)); refine kP (cs := #[.int .u8 t138, .int .i64 t139, .int .i64 t140, .int .i64 0, .int .i64 0, .int .u8 0]) ?_ 3 _ rfl; (with_reducible repeat (first | refine kN ?_ _ | refine kD ?_ | refine kA ?_ _)); refine kP (cs := #[.int .u8 t138, .int .i64 t139, .int .i64 0, .int .i64 0, .int .i64 0, .int .u8 0]) ?_ 2 _ rfl; (with_reducible repeat (first | refine kN ?_ _ | refine kD ?_ | refine kA ?_ _)); refine kP (cs := #[.int .u8 t138, .int .i64 0, .int .i64 0, .int .i64 0, .int .i64 0, .int .u8 0]) ?_ 1 _ rfl; (with_reducible repeat (first | refine kN ?_ _ | refine kD ?_ | refine kA ?_ _)); refine kP (cs := #[.int .u8 0, .int .i64 0, .int .i64 0, .int .i64 0, .int .i64 0, .int .u8 0]) ?_ 0 _ rfl; (with_reducible repeat (first | refine kN ?_ _ | refine kD ?_ | refine kA ?_ _)); exact BK145.out⟩, ⟨by repeat (first | (with_reducible first | exact HB.out | apply kL | apply kM | apply kE | refine kS ?_ GE135.out | refine kS ?_ GE136.out | refine kS ?_ GE137.out | refine kS ?_ GE145.out) | exact HB.out)⟩⟩
   ·rw [if_neg c23] at H
    have c23b0 : (!(t138 == a2_0) || (!(t139 == a2_1) || (!(t140 == a2_2) || (!(t141 == a2_3) || (!(t142 == a2_4) || (!(t143 == 0))))))) = false := by simpa using c23
    clear c23
    (first | (generalize hg_ : (!(t138 == a2_0) || (!(t139 == a2_1) || (!(t140 == a2_2) || (!(t141 == a2_3) || (!(t142 == a2_4) || (!(t143 == 0))))))) = bg_ at *; subst c23b0; have c23b0 := hg_; clear hg_) | rw [c23b0] | (simp only [i64_w, i32_w]; rw [c23b0]) | skip)
    have H' := Aside0.mk H
    clear H
    have hnb31 := NB145_135.out
    have hnc31 := NB135_145.out
    have hnb32 := NB145_136.out
    have hnc32 := NB136_145.out
    have hnb33 := NB145_137.out
    have hnc33 := NB137_145.out
    have hcz34_0 : w17.cell? ⟨gb145, 0, none⟩ = some (.int .u8 0) := (kC BK145.out 0).trans rfl
    have hcz34_1 : w17.cell? ⟨gb145, 1, none⟩ = some (.int .i64 0) := (kC BK145.out 1).trans rfl
    have hcz34_2 : w17.cell? ⟨gb145, 2, none⟩ = some (.int .i64 0) := (kC BK145.out 2).trans rfl
    have hcz34_3 : w17.cell? ⟨gb145, 3, none⟩ = some (.int .i64 0) := (kC BK145.out 3).trans rfl
    have hcz34_4 : w17.cell? ⟨gb145, 4, none⟩ = some (.int .i64 0) := (kC BK145.out 4).trans rfl
    have hcz34_5 : w17.cell? ⟨gb145, 5, none⟩ = some (.int .u8 0) := (kC BK145.out 5).trans rfl
    have hfz34_0 := kF BK145.out 0
    have hfz34_1 := kF BK145.out 1
    have hfz34_2 := kF BK145.out 2
    have hfz34_3 := kF BK145.out 3
    have hfz34_4 := kF BK145.out 4
    have hfz34_5 := kF BK145.out 5
    have hnb35 := NB136_135.out
    have hnc35 := NB135_136.out
    have hnb36 := NB136_137.out
    have hnc36 := NB137_136.out
    have hcz37_0 : w17.cell? ⟨gb136, 0, none⟩ = some (.int .u8 a2_0) := (kC BK136.out 0).trans rfl
    have hcz37_1 : w17.cell? ⟨gb136, 1, none⟩ = some (.int .i64 a2_1) := (kC BK136.out 1).trans rfl
    have hcz37_2 : w17.cell? ⟨gb136, 2, none⟩ = some (.int .i64 a2_2) := (kC BK136.out 2).trans rfl
    have hcz37_3 : w17.cell? ⟨gb136, 3, none⟩ = some (.int .i64 a2_3) := (kC BK136.out 3).trans rfl
    have hcz37_4 : w17.cell? ⟨gb136, 4, none⟩ = some (.int .i64 a2_4) := (kC BK136.out 4).trans rfl
    have hcz37_5 : w17.cell? ⟨gb136, 5, none⟩ = some (.int .u8 0) := (kC BK136.out 5).trans rfl
    have hfz37_0 := kF BK136.out 0
    have hfz37_1 := kF BK136.out 1
    have hfz37_2 := kF BK136.out 2
    have hfz37_3 := kF BK136.out 3
    have hfz37_4 := kF BK136.out 4
    have hfz37_5 := kF BK136.out 5
    go_wp2
    go_meet
    case rel => exact ⟨_, ((a2_5 == 0)), (by first | rfl | (simp; done) | (simp [*]; done)), H', ⟨by first | omega | exact Nat.le_refl _⟩, ⟨by (with_reducible repeat (first | refine kN ?_ _ | refine kD ?_ | refine kA ?_ _)); refine kR ?_ NB135_145.out _; (with_reducible repeat (first | refine kN ?_ _ | refine kD ?_ | refine kA ?_ _)); refine kR ?_ NB135_145.out _; (with_reducible repeat (first | refine kN ?_ _ | refine kD ?_ | refine kA ?_ _)); refine kR ?_ NB135_145.out _; (with_reducible repeat (first | refine kN ?_ _ | refine kD ?_ | refine kA ?_ _)); refine kR ?_ NB135_145.out _; (with_reducible repeat (first | refine kN ?_ _ | refine kD ?_ | refine kA ?_ _)); refine kR ?_ NB135_145.out _; (with_reducible repeat (first | refine kN ?_ _ | refine kD ?_ | refine kA ?_ _)); refine kR ?_ NB135_145.out _; (with_reducible repeat (first | refine kN ?_ _ | refine kD ?_ | refine kA ?_ _)); exact BK135.out⟩, ⟨by (with_reducible repeat (first | refine kN ?_ _ | refine kD ?_ | refine kA ?_ _)); refine kR ?_ NB136_145.out _; (with_reducible repeat (first | refine kN ?_ _ | refine kD ?_ | refine kA ?_ _)); refine kR ?_ NB136_145.out _; (with_reducible repeat (first | refine kN ?_ _ | refine kD ?_ | refine kA ?_ _)); refine kR ?_ NB136_145.out _; (with_reducible repeat (first | refine kN ?_ _ | refine kD ?_ | refine kA ?_ _)); refine kR ?_ NB136_145.out _; (with_reducible repeat (first | refine kN ?_ _ | refine kD ?_ | refine kA ?_ _)); refine kR ?_ NB136_145.out _; (with_reducible repeat (first | refine kN ?_ _ | refine kD ?_ | refine kA ?_ _)); refine kR ?_ NB136_145.out _; (with_reducible repeat (first | refine kN ?_ _ | refine kD ?_ | refine kA ?_ _)); exact BK136.out⟩, ⟨by (with_reducible repeat (first | refine kN ?_ _ | refine kD ?_ | refine kA ?_ _)); refine kR ?_ NB137_145.out _; (with_reducible repeat (first | refine kN ?_ _ | refine kD ?_ | refine kA ?_ _)); refine kR ?_ NB137_145.out _; (with_reducible repeat (first | refine kN ?_ _ | refine kD ?_ | refine kA ?_ _)); refine kR ?_ NB137_145.out _; (with_reducible repeat (first | refine kN ?_ _ | refine kD ?_ | refine kA ?_ _)); refine kR ?_ NB137_145.out _; (with_reducible repeat (first | refine kN ?_ _ | refine kD ?_ | refine kA ?_ _)); refine kR ?_ NB137_145.out _; (with_reducible repeat (first | refine kN ?_ _ | refine kD ?_ | refine kA ?_ _)); refine kR ?_ NB137_145.out _; (with_reducible repeat (first | refine kN ?_ _ | refine kD ?_ | refine kA ?_ _)); exact BK137.out⟩, ⟨by (with_reducible repeat (first | refine kN ?_ _ | refine kD ?_ | refine kA ?_ _)); refine kP (cs := #[.int .u8 t138, .int .i64 t139, .int .i64 t140, .int .i64 t141, .int .i64 t142, .int .u8 0]) ?_ 5 _ rfl; (with_reducible repeat (first | refine kN ?_ _ | refine kD ?_ | refine kA ?_ _)); refine kP (cs := #[.int .u8 t138, .int .i64 t139, .int .i64 t140, .int .i64 t141, .int .i64 0, .int .u8 0]) ?_ 4 _ rfl; (with_reducible repeat (first | refine kN ?_ _ | refine kD ?_ | refine kA ?_ _)); refine kP (cs := #[.int .u8 t138, .int .i64 t139, .int .i64 t140, .int .i64 0, .int .i64 0, .int .u8 0]) ?_ 3 _ rfl; (with_reducible repeat (first | refine kN ?_ _ | refine kD ?_ | refine kA ?_ _)); refine kP (cs := #[.int .u8 t138, .int .i64 t139, .int .i64 0, .int .i64 0, .int .i64 0, .int .u8 0]) ?_ 2 _ rfl; (with_reducible repeat (first | refine kN ?_ _ | refine kD ?_ | refine kA ?_ _)); refine kP (cs := #[.int .u8 t138, .int .i64 0, .int .i64 0, .int .i64 0, .int .i64 0, .int .u8 0]) ?_ 1 _ rfl; (with_reducible repeat (first | refine kN ?_ _ | refine kD ?_ | refine kA ?_ _)); refine kP (cs := #[.int .u8 0, .int .i64 0, .int .i64 0, .int .i64 0, .int .i64 0, .int .u8 0]) ?_ 0 _ rfl; (with_reducible repeat (first | refine kN ?_ _ | refine kD ?_ | refine kA ?_ _)); exact BK145.out⟩, ⟨by repeat (first | (with_reducible first | exact HB.out | apply kL | apply kM | apply kE | refine kS ?_ GE135.out | refine kS ?_ GE136.out | refine kS ?_ GE137.out | refine kS ?_ GE145.out) | exact HB.out)⟩⟩
  ·replace c22 := Bool.eq_false_iff.mpr c22
   subst c22
   have H1 : (cycle_Hear.j0 k a3 a4 a2_5 true a1_0 a1_1 a1_2 a1_3 a1_4 a1_5 a1_6 a1_7) = some (r1, r2, r3, r4, r5, r6, r7, r8, r9) := by rw [if_neg (show ¬ (false = true) by decide)] at H; try exact H
   clear H
   have H := H1
   clear H1
   have H' := Aside0.mk H
   clear H
   go_wp2
   go_meet
   case rel => exact ⟨_, (true), (by first | rfl | (simp; done) | (simp [*]; done)), H', ⟨by first | omega | exact Nat.le_refl _⟩, ⟨by (with_reducible repeat (first | refine kN ?_ _ | refine kD ?_ | refine kA ?_ _)); refine kR ?_ NB135_145.out _; (with_reducible repeat (first | refine kN ?_ _ | refine kD ?_ | refine kA ?_ _)); refine kR ?_ NB135_145.out _; (with_reducible repeat (first | refine kN ?_ _ | refine kD ?_ | refine kA ?_ _)); refine kR ?_ NB135_145.out _; (with_reducible repeat (first | refine kN ?_ _ | refine kD ?_ | refine kA ?_ _)); refine kR ?_ NB135_145.out _; (with_reducible repeat (first | refine kN ?_ _ | refine kD ?_ | refine kA ?_ _)); refine kR ?_ NB135_145.out _; (with_reducible repeat (first | refine kN ?_ _ | refine kD ?_ | refine kA ?_ _)); refine kR ?_ NB135_145.out _; (with_reducible repeat (first | refine kN ?_ _ | refine kD ?_ | refine kA ?_ _)); exact BK135.out⟩, ⟨by (with_reducible repeat (first | refine kN ?_ _ | refine kD ?_ | refine kA ?_ _)); refine kR ?_ NB136_145.out _; (with_reducible repeat (first | refine kN ?_ _ | refine kD ?_ | refine kA ?_ _)); refine kR ?_ NB136_145.out _; (with_reducible repeat (first | refine kN ?_ _ | refine kD ?_ | refine kA ?_ _)); refine kR ?_ NB136_145.out _; (with_reducible repeat (first | refine kN ?_ _ | refine kD ?_ | refine kA ?_ _)); refine kR ?_ NB136_145.out _; (with_reducible repeat (first | refine kN ?_ _ | refine kD ?_ | refine kA ?_ _)); refine kR ?_ NB136_145.out _; (with_reducible repeat (first | refine kN ?_ _ | refine kD ?_ | refine kA ?_ _)); refine kR ?_ NB136_145.out _; (with_reducible repeat (first | refine kN ?_ _ | refine kD ?_ | refine kA ?_ _)); exact BK136.out⟩, ⟨by (with_reducible repeat (first | refine kN ?_ _ | refine kD ?_ | refine kA ?_ _)); refine kR ?_ NB137_145.out _; (with_reducible repeat (first | refine kN ?_ _ | refine kD ?_ | refine kA ?_ _)); refine kR ?_ NB137_145.out _; (with_reducible repeat (first | refine kN ?_ _ | refine kD ?_ | refine kA ?_ _)); refine kR ?_ NB137_145.out _; (with_reducible repeat (first | refine kN ?_ _ | refine kD ?_ | refine kA ?_ _)); refine kR ?_ NB137_145.out _; (with_reducible repeat (first | refine kN ?_ _ | refine kD ?_ | refine kA ?_ _)); refine kR ?_ NB137_145.out _; (with_reducible repeat (first | refine kN ?_ _ | refine kD ?_ | refine kA ?_ _)); refine kR ?_ NB137_145.out _; (with_reducible repeat (first | refine kN ?_ _ | refine kD ?_ | refine kA ?_ _)); exact BK137.out⟩, ⟨by (with_reducible repeat (first | refine kN ?_ _ | refine kD ?_ | refine kA ?_ _)); refine kP (cs := #[.int .u8 t138, .int .i64 t139, .int .i64 t140, .int .i64 t141, .int .i64 t142, .int .u8 0]) ?_ 5 _ rfl; (with_reducible repeat (first | refine kN ?_ _ | refine kD ?_ | refine kA ?_ _)); refine kP (cs := #[.int .u8 t138, .int .i64 t139, .int .i64 t140, .int .i64 t141, .int .i64 0, .int .u8 0]) ?_ 4 _ rfl; (with_reducible repeat (first | refine kN ?_ _ | refine kD ?_ | refine kA ?_ _)); refine kP (cs := #[.int .u8 t138, .int .i64 t139, .int .i64 t140, .int .i64 0, .int .i64 0, .int .u8 0]) ?_ 3 _ rfl; (with_reducible repeat (first | refine kN ?_ _ | refine kD ?_ | refine kA ?_ _)); refine kP (cs := #[.int .u8 t138, .int .i64 t139, .int .i64 0, .int .i64 0, .int .i64 0, .int .u8 0]) ?_ 2 _ rfl; (with_reducible repeat (first | refine kN ?_ _ | refine kD ?_ | refine kA ?_ _)); refine kP (cs := #[.int .u8 t138, .int .i64 0, .int .i64 0, .int .i64 0, .int .i64 0, .int .u8 0]) ?_ 1 _ rfl; (with_reducible repeat (first | refine kN ?_ _ | refine kD ?_ | refine kA ?_ _)); refine kP (cs := #[.int .u8 0, .int .i64 0, .int .i64 0, .int .i64 0, .int .i64 0, .int .u8 0]) ?_ 0 _ rfl; (with_reducible repeat (first | refine kN ?_ _ | refine kD ?_ | refine kA ?_ _)); exact BK145.out⟩, ⟨by repeat (first | (with_reducible first | exact HB.out | apply kL | apply kM | apply kE | refine kS ?_ GE135.out | refine kS ?_ GE136.out | refine kS ?_ GE137.out | refine kS ?_ GE145.out) | exact HB.out)⟩⟩
 case rest =>
  clear HC7
  try clear c1
  try clear c2
  try clear p2
  try clear c3
  try clear c11
  try clear c12
  try clear c13
  try clear c14
  try clear c18
  try clear c19
  try clear c20
  try clear c22
  try clear c23
  try clear c23b0
  try clear c24
  try clear c25
  try clear c26
  try clear c28
  try clear c29
  try clear c31
  try clear c32
  try clear c33
  try clear c35
  try clear c36
  try clear hcz13_0
  try clear hcz13_1
  try clear hcz13_2
  try clear hcz13_3
  try clear hcz13_4
  try clear hcz13_5
  try clear hcz15_0
  try clear hcz15_1
  try clear hcz15_2
  try clear hcz15_3
  try clear hcz15_4
  try clear hcz15_5
  try clear hcz15_6
  try clear hcz15_7
  try clear hcz21_0
  try clear hcz21_1
  try clear hcz21_2
  try clear hcz21_3
  try clear hcz21_4
  try clear hcz21_5
  try clear hcz27_0
  try clear hcz27_1
  try clear hcz27_2
  try clear hcz27_3
  try clear hcz27_4
  try clear hcz27_5
  try clear hcz30_0
  try clear hcz30_1
  try clear hcz30_2
  try clear hcz30_3
  try clear hcz30_4
  try clear hcz30_5
  try clear hcz34_0
  try clear hcz34_1
  try clear hcz34_2
  try clear hcz34_3
  try clear hcz34_4
  try clear hcz34_5
  try clear hcz37_0
  try clear hcz37_1
  try clear hcz37_2
  try clear hcz37_3
  try clear hcz37_4
  try clear hcz37_5
  try clear hfz13_0
  try clear hfz13_1
  try clear hfz13_2
  try clear hfz13_3
  try clear hfz13_4
  try clear hfz13_5
  try clear hfz15_0
  try clear hfz15_1
  try clear hfz15_2
  try clear hfz15_3
  try clear hfz15_4
  try clear hfz15_5
  try clear hfz15_6
  try clear hfz15_7
  try clear hfz21_0
  try clear hfz21_1
  try clear hfz21_2
  try clear hfz21_3
  try clear hfz21_4
  try clear hfz21_5
  try clear hfz27_0
  try clear hfz27_1
  try clear hfz27_2
  try clear hfz27_3
  try clear hfz27_4
  try clear hfz27_5
  try clear hfz30_0
  try clear hfz30_1
  try clear hfz30_2
  try clear hfz30_3
  try clear hfz30_4
  try clear hfz30_5
  try clear hfz34_0
  try clear hfz34_1
  try clear hfz34_2
  try clear hfz34_3
  try clear hfz34_4
  try clear hfz34_5
  try clear hfz37_0
  try clear hfz37_1
  try clear hfz37_2
  try clear hfz37_3
  try clear hfz37_4
  try clear hfz37_5
  obtain ⟨kq, x34_6, rfl, HA, HJ6, BK135, BK136, BK137, BK145, HB⟩ := hcut
  cases kq with
  | zero => exact absurd HA.out (by simp [cycle_Hear.j0])
  | succ kj6 =>
   have H := HA.out
   clear HA
   simp only [cycle_Hear.j0] at H
   by_cases c38 : x34_6 = true
   ·subst c38
    have H1 : (some (a1_0, a1_1, a1_2, a1_3, a1_4, a1_5, a1_6, a1_7, 10)) = some (r1, r2, r3, r4, r5, r6, r7, r8, r9) := by rw [if_pos rfl] at H; try exact H
    clear H
    have H := H1
    clear H1
    simp only [Option.some.injEq, Prod.mk.injEq] at H
    obtain ⟨rfl, rfl, rfl, rfl, rfl, rfl, rfl, rfl, rfl⟩ := H
    have hnb39 := NB135_136.out
    have hnc39 := NB136_135.out
    have hnb40 := NB135_137.out
    have hnc40 := NB137_135.out
    have hnb41 := NB135_145.out
    have hnc41 := NB145_135.out
    have hcz42_0 : wc.cell? ⟨gb135, 0, none⟩ = some (.int .i64 a1_0) := (kC BK135.out 0).trans rfl
    have hcz42_1 : wc.cell? ⟨gb135, 1, none⟩ = some (.int .i64 a1_1) := (kC BK135.out 1).trans rfl
    have hcz42_2 : wc.cell? ⟨gb135, 2, none⟩ = some (.int .u8 a1_2) := (kC BK135.out 2).trans rfl
    have hcz42_3 : wc.cell? ⟨gb135, 3, none⟩ = some (.int .i64 a1_3) := (kC BK135.out 3).trans rfl
    have hcz42_4 : wc.cell? ⟨gb135, 4, none⟩ = some (.int .i64 a1_4) := (kC BK135.out 4).trans rfl
    have hcz42_5 : wc.cell? ⟨gb135, 5, none⟩ = some (.int .i64 a1_5) := (kC BK135.out 5).trans rfl
    have hcz42_6 : wc.cell? ⟨gb135, 6, none⟩ = some (.int .i64 a1_6) := (kC BK135.out 6).trans rfl
    have hcz42_7 : wc.cell? ⟨gb135, 7, none⟩ = some (.bool a1_7) := (kC BK135.out 7).trans rfl
    have hfz42_0 := kF BK135.out 0
    have hfz42_1 := kF BK135.out 1
    have hfz42_2 := kF BK135.out 2
    have hfz42_3 := kF BK135.out 3
    have hfz42_4 := kF BK135.out 4
    have hfz42_5 := kF BK135.out 5
    have hfz42_6 := kF BK135.out 6
    have hfz42_7 := kF BK135.out 7
    have hnb43 := NB137_136.out
    have hnc43 := NB136_137.out
    have hnb44 := NB137_145.out
    have hnc44 := NB145_137.out
    have hcz45_0 : wc.cell? ⟨gb137, 0, none⟩ = some (.int .i64 0) := (kC BK137.out 0).trans rfl
    have hcz45_1 : wc.cell? ⟨gb137, 1, none⟩ = some (.int .i64 0) := (kC BK137.out 1).trans rfl
    have hcz45_2 : wc.cell? ⟨gb137, 2, none⟩ = some (.int .u8 0) := (kC BK137.out 2).trans rfl
    have hcz45_3 : wc.cell? ⟨gb137, 3, none⟩ = some (.int .i64 0) := (kC BK137.out 3).trans rfl
    have hcz45_4 : wc.cell? ⟨gb137, 4, none⟩ = some (.int .i64 0) := (kC BK137.out 4).trans rfl
    have hcz45_5 : wc.cell? ⟨gb137, 5, none⟩ = some (.int .i64 0) := (kC BK137.out 5).trans rfl
    have hcz45_6 : wc.cell? ⟨gb137, 6, none⟩ = some (.int .i64 0) := (kC BK137.out 6).trans rfl
    have hcz45_7 : wc.cell? ⟨gb137, 7, none⟩ = some (.bool false) := (kC BK137.out 7).trans rfl
    have hfz45_0 := kF BK137.out 0
    have hfz45_1 := kF BK137.out 1
    have hfz45_2 := kF BK137.out 2
    have hfz45_3 := kF BK137.out 3
    have hfz45_4 := kF BK137.out 4
    have hfz45_5 := kF BK137.out 5
    have hfz45_6 := kF BK137.out 6
    have hfz45_7 := kF BK137.out 7
    go_wp2
    refine bodyPost_ret (results_ct rfl _ _ gb137 25 #[.int .i64 a1_0, .int .i64 a1_1, .int .u8 a1_2, .int .i64 a1_3, .int .i64 a1_4, .int .i64 a1_5, .int .i64 a1_6, .bool a1_7] (0, 0) _ rfl (by (with_reducible repeat (first | refine kN ?_ _ | refine kD ?_ | refine kA ?_ _)); refine kP (cs := #[.int .i64 a1_0, .int .i64 a1_1, .int .u8 a1_2, .int .i64 a1_3, .int .i64 a1_4, .int .i64 a1_5, .int .i64 a1_6, .bool false]) ?_ 7 _ rfl; (with_reducible repeat (first | refine kN ?_ _ | refine kD ?_ | refine kA ?_ _)); refine kP (cs := #[.int .i64 a1_0, .int .i64 a1_1, .int .u8 a1_2, .int .i64 a1_3, .int .i64 a1_4, .int .i64 a1_5, .int .i64 0, .bool false]) ?_ 6 _ rfl; (with_reducible repeat (first | refine kN ?_ _ | refine kD ?_ | refine kA ?_ _)); refine kP (cs := #[.int .i64 a1_0, .int .i64 a1_1, .int .u8 a1_2, .int .i64 a1_3, .int .i64 a1_4, .int .i64 0, .int .i64 0, .bool false]) ?_ 5 _ rfl; (with_reducible repeat (first | refine kN ?_ _ | refine kD ?_ | refine kA ?_ _)); refine kP (cs := #[.int .i64 a1_0, .int .i64 a1_1, .int .u8 a1_2, .int .i64 a1_3, .int .i64 0, .int .i64 0, .int .i64 0, .bool false]) ?_ 4 _ rfl; (with_reducible repeat (first | refine kN ?_ _ | refine kD ?_ | refine kA ?_ _)); refine kP (cs := #[.int .i64 a1_0, .int .i64 a1_1, .int .u8 a1_2, .int .i64 0, .int .i64 0, .int .i64 0, .int .i64 0, .bool false]) ?_ 3 _ rfl; (with_reducible repeat (first | refine kN ?_ _ | refine kD ?_ | refine kA ?_ _)); refine kP (cs := #[.int .i64 a1_0, .int .i64 a1_1, .int .u8 0, .int .i64 0, .int .i64 0, .int .i64 0, .int .i64 0, .bool false]) ?_ 2 _ rfl; (with_reducible repeat (first | refine kN ?_ _ | refine kD ?_ | refine kA ?_ _)); refine kP (cs := #[.int .i64 a1_0, .int .i64 0, .int .u8 0, .int .i64 0, .int .i64 0, .int .i64 0, .int .i64 0, .bool false]) ?_ 1 _ rfl; (with_reducible repeat (first | refine kN ?_ _ | refine kD ?_ | refine kA ?_ _)); refine kP (cs := #[.int .i64 0, .int .i64 0, .int .u8 0, .int .i64 0, .int .i64 0, .int .i64 0, .int .i64 0, .bool false]) ?_ 0 _ rfl; (with_reducible repeat (first | refine kN ?_ _ | refine kD ?_ | refine kA ?_ _)); exact BK137.out) Tryd.underlying25 rfl (by kernel_rfl)) rfl ?_
    exact ⟨by first | rfl | (simp [errW_none, errW_some] <;> rfl) | (simp [*, errW_none, errW_some] <;> rfl), by repeat (first | (with_reducible first | exact HB.out | apply kL | apply kM | apply kE | refine kS ?_ GE135.out | refine kS ?_ GE136.out | refine kS ?_ GE137.out | refine kS ?_ GE145.out) | exact HB.out)⟩
   ·replace c38 := Bool.eq_false_iff.mpr c38
    subst c38
    have H1 : (if a1_2 = 1 then ((cycle_charged.f a1_0 a1_1 a1_2 a1_3 a1_4 a1_5 a1_6 a1_7 a2_5 a3 a4).bind fun bt146 => (some (bt146.1, bt146.2.1, bt146.2.2.1, bt146.2.2.2.1, bt146.2.2.2.2.1, bt146.2.2.2.2.2.1, bt146.2.2.2.2.2.2.1, bt146.2.2.2.2.2.2.2, 0))) else (if a1_2 = 3 then (if a2_5 = 1 then (if a4 = true then (some (a1_0, a1_1, 5, a1_3, a1_4, a1_5, a1_6, a1_7, 0)) else (some (a1_0, a1_1, 4, a1_3, a1_4, a1_5, a1_6, a1_7, 0))) else ((cycle_back.f a1_0 a1_1 a1_2 a1_3 a1_4 a1_5 a1_6 a1_7).bind fun bt154 => (some (bt154.1, bt154.2.1, bt154.2.2.1, bt154.2.2.2.1, bt154.2.2.2.2.1, bt154.2.2.2.2.2.1, bt154.2.2.2.2.2.2.1, bt154.2.2.2.2.2.2.2, 0)))) else (if a1_2 = 4 then (if a2_5 = 1 then (some (a1_0, a1_1, 7, a1_3, a1_4, a1_5, a1_6, a1_7, 0)) else (some (a1_0, a1_1, 5, a1_3, a1_4, a1_5, a1_6, a1_7, 0))) else (if a1_2 = 5 then ((cycle_back.f a1_0 a1_1 a1_2 a1_3 a1_4 a1_5 a1_6 a1_7).bind fun bt162 => (some (bt162.1, bt162.2.1, bt162.2.2.1, bt162.2.2.2.1, bt162.2.2.2.2.1, bt162.2.2.2.2.2.1, bt162.2.2.2.2.2.2.1, bt162.2.2.2.2.2.2.2, 0))) else (some (a1_0, a1_1, 9, a1_3, a1_4, a1_5, a1_6, a1_7, 0)))))) = some (r1, r2, r3, r4, r5, r6, r7, r8, r9) := by rw [if_neg (show ¬ (false = true) by decide)] at H; try exact H
    clear H
    have H := H1
    clear H1
    by_cases c46 : a1_2 = 1
    ·rw [if_pos c46] at H
     have c46b0 : (a1_2 == 1) = true := beq_iff_eq.mpr c46
     have c46b1 : (a1_2 != 1) = false := bne_eq_false_iff_eq.mpr c46
     clear c46
     replace H := Option.bind_eq_some_iff.mp H
     obtain ⟨⟨t146, t147, t148, t149, t150, t151, t152, t153⟩, A470, H⟩ := H
     replace H : (some (t146, t147, t148, t149, t150, t151, t152, t153, 0)) = some (r1, r2, r3, r4, r5, r6, r7, r8, r9) := H
     have A47 := Aside0.mk A470
     clear A470
     simp only [Option.some.injEq, Prod.mk.injEq] at H
     obtain ⟨rfl, rfl, rfl, rfl, rfl, rfl, rfl, rfl, rfl⟩ := H
     have hnb48 := NB135_136.out
     have hnc48 := NB136_135.out
     have hnb49 := NB135_137.out
     have hnc49 := NB137_135.out
     have hnb50 := NB135_145.out
     have hnc50 := NB145_135.out
     have hcz51_0 : wc.cell? ⟨gb135, 0, none⟩ = some (.int .i64 a1_0) := (kC BK135.out 0).trans rfl
     have hcz51_1 : wc.cell? ⟨gb135, 1, none⟩ = some (.int .i64 a1_1) := (kC BK135.out 1).trans rfl
     have hcz51_2 : wc.cell? ⟨gb135, 2, none⟩ = some (.int .u8 a1_2) := (kC BK135.out 2).trans rfl
     have hcz51_3 : wc.cell? ⟨gb135, 3, none⟩ = some (.int .i64 a1_3) := (kC BK135.out 3).trans rfl
     have hcz51_4 : wc.cell? ⟨gb135, 4, none⟩ = some (.int .i64 a1_4) := (kC BK135.out 4).trans rfl
     have hcz51_5 : wc.cell? ⟨gb135, 5, none⟩ = some (.int .i64 a1_5) := (kC BK135.out 5).trans rfl
     have hcz51_6 : wc.cell? ⟨gb135, 6, none⟩ = some (.int .i64 a1_6) := (kC BK135.out 6).trans rfl
     have hcz51_7 : wc.cell? ⟨gb135, 7, none⟩ = some (.bool a1_7) := (kC BK135.out 7).trans rfl
     have hfz51_0 := kF BK135.out 0
     have hfz51_1 := kF BK135.out 1
     have hfz51_2 := kF BK135.out 2
     have hfz51_3 := kF BK135.out 3
     have hfz51_4 := kF BK135.out 4
     have hfz51_5 := kF BK135.out 5
     have hfz51_6 := kF BK135.out 6
     have hfz51_7 := kF BK135.out 7
     go_wp2_with (first | ((with_reducible refine gate_callee (f := 30) rfl ?_); refine goesL_ (some 45) rfl rfl Tryd.func30 (by kernel_rfl) rfl #[.agg #[.int .i64 a1_0, .int .i64 a1_1, .int .u8 a1_2, .int .i64 a1_3, .int .i64 a1_4, .int .i64 a1_5, .int .i64 a1_6, .bool a1_7], .int .u8 a2_5, .int .i64 a3, .bool a4] rfl (by (try simp only [List.map_toArray, List.map_cons, List.map_nil]); first | done | rfl | (simp only [List.length_drop, List.length_take]; rfl)) ?_; (with_reducible refine (cycle_charged.calls a1_0 a1_1 a1_2 a1_3 a1_4 a1_5 a1_6 a1_7 a2_5 a3 a4 t146 t147 t148 t149 t150 t151 t152 t153 _ ?side1 A47.out).mono ?_); (case side1 => repeat (first | exact (Kd.C_below HRG0.out HB.out) | exact HRG0.out | (with_reducible refine Kd.C_alloc ?_ _) | (with_reducible refine Kd.C_drewN ?_ _) | (with_reducible refine Kd.C_drew ?_))); rintro e w52 ⟨rfl, hb⟩; refine ⟨_, rfl, ?_⟩; have n0_ := Aside0.mk (blk_below (g := gb135) (o := .cells #[.int .i64 a1_0, .int .i64 a1_1, .int .u8 a1_2, .int .i64 a1_3, .int .i64 a1_4, .int .i64 a1_5, .int .i64 a1_6, .bool a1_7] 25 (0, 0)) (by (with_reducible repeat (first | refine kN ?_ _ | refine kD ?_ | refine kA ?_ _)); exact BK135.out) hb); have n1_ := Aside0.mk (blk_below (g := gb136) (o := .cells #[.int .u8 a2_0, .int .i64 a2_1, .int .i64 a2_2, .int .i64 a2_3, .int .i64 a2_4, .int .u8 0] 28 (0, 0)) (by (with_reducible repeat (first | refine kN ?_ _ | refine kD ?_ | refine kA ?_ _)); exact BK136.out) hb); have n2_ := Aside0.mk (blk_below (g := gb137) (o := .cells #[.int .i64 0, .int .i64 0, .int .u8 0, .int .i64 0, .int .i64 0, .int .i64 0, .int .i64 0, .bool false] 25 (0, 0)) (by (with_reducible repeat (first | refine kN ?_ _ | refine kD ?_ | refine kA ?_ _)); exact BK137.out) hb); have n3_ := Aside0.mk (blk_below (g := gb145) (o := .cells #[.int .u8 t138, .int .i64 t139, .int .i64 t140, .int .i64 t141, .int .i64 t142, .int .u8 t143] 28 (0, 0)) (by (with_reducible repeat (first | refine kN ?_ _ | refine kD ?_ | refine kA ?_ _)); exact BK145.out) hb); have n4_ := Aside0.mk (below_step (by repeat (first | (with_reducible first | exact HB.out | apply kL | apply kM | apply kE | refine kS ?_ GE135.out | refine kS ?_ GE136.out | refine kS ?_ GE137.out | refine kS ?_ GE145.out) | exact HB.out)) hb); clear BK135; clear BK136; clear BK137; clear BK145; clear HB; have BK135 := n0_; have BK136 := n1_; have BK137 := n2_; have BK145 := n3_; have HB := n4_; clear n0_ n1_ n2_ n3_ n4_; (try clear hb); (try clear hb2); (try clear hk); (try clear hi); have hnb53 := NB137_136.out; have hnc53 := NB136_137.out; have hnb54 := NB137_145.out; have hnc54 := NB145_137.out; have hcz55_0 : w52.cell? ⟨gb137, 0, none⟩ = some (.int .i64 0) := (kC BK137.out 0).trans rfl; have hcz55_1 : w52.cell? ⟨gb137, 1, none⟩ = some (.int .i64 0) := (kC BK137.out 1).trans rfl; have hcz55_2 : w52.cell? ⟨gb137, 2, none⟩ = some (.int .u8 0) := (kC BK137.out 2).trans rfl; have hcz55_3 : w52.cell? ⟨gb137, 3, none⟩ = some (.int .i64 0) := (kC BK137.out 3).trans rfl; have hcz55_4 : w52.cell? ⟨gb137, 4, none⟩ = some (.int .i64 0) := (kC BK137.out 4).trans rfl; have hcz55_5 : w52.cell? ⟨gb137, 5, none⟩ = some (.int .i64 0) := (kC BK137.out 5).trans rfl; have hcz55_6 : w52.cell? ⟨gb137, 6, none⟩ = some (.int .i64 0) := (kC BK137.out 6).trans rfl; have hcz55_7 : w52.cell? ⟨gb137, 7, none⟩ = some (.bool false) := (kC BK137.out 7).trans rfl; have hfz55_0 := kF BK137.out 0; have hfz55_1 := kF BK137.out 1; have hfz55_2 := kF BK137.out 2; have hfz55_3 := kF BK137.out 3; have hfz55_4 := kF BK137.out 4; have hfz55_5 := kF BK137.out 5; have hfz55_6 := kF BK137.out 6; have hfz55_7 := kF BK137.out 7))
     refine bodyPost_ret (results_ct rfl _ _ gb137 25 #[.int .i64 t146, .int .i64 t147, .int .u8 t148, .int .i64 t149, .int .i64 t150, .int .i64 t151, .int .i64 t152, .bool t153] (0, 0) _ rfl (by (with_reducible repeat (first | refine kN ?_ _ | refine kD ?_ | refine kA ?_ _)); refine kP (cs := #[.int .i64 t146, .int .i64 t147, .int .u8 t148, .int .i64 t149, .int .i64 t150, .int .i64 t151, .int .i64 t152, .bool false]) ?_ 7 _ rfl; (with_reducible repeat (first | refine kN ?_ _ | refine kD ?_ | refine kA ?_ _)); refine kP (cs := #[.int .i64 t146, .int .i64 t147, .int .u8 t148, .int .i64 t149, .int .i64 t150, .int .i64 t151, .int .i64 0, .bool false]) ?_ 6 _ rfl; (with_reducible repeat (first | refine kN ?_ _ | refine kD ?_ | refine kA ?_ _)); refine kP (cs := #[.int .i64 t146, .int .i64 t147, .int .u8 t148, .int .i64 t149, .int .i64 t150, .int .i64 0, .int .i64 0, .bool false]) ?_ 5 _ rfl; (with_reducible repeat (first | refine kN ?_ _ | refine kD ?_ | refine kA ?_ _)); refine kP (cs := #[.int .i64 t146, .int .i64 t147, .int .u8 t148, .int .i64 t149, .int .i64 0, .int .i64 0, .int .i64 0, .bool false]) ?_ 4 _ rfl; (with_reducible repeat (first | refine kN ?_ _ | refine kD ?_ | refine kA ?_ _)); refine kP (cs := #[.int .i64 t146, .int .i64 t147, .int .u8 t148, .int .i64 0, .int .i64 0, .int .i64 0, .int .i64 0, .bool false]) ?_ 3 _ rfl; (with_reducible repeat (first | refine kN ?_ _ | refine kD ?_ | refine kA ?_ _)); refine kP (cs := #[.int .i64 t146, .int .i64 t147, .int .u8 0, .int .i64 0, .int .i64 0, .int .i64 0, .int .i64 0, .bool false]) ?_ 2 _ rfl; (with_reducible repeat (first | refine kN ?_ _ | refine kD ?_ | refine kA ?_ _)); refine kP (cs := #[.int .i64 t146, .int .i64 0, .int .u8 0, .int .i64 0, .int .i64 0, .int .i64 0, .int .i64 0, .bool false]) ?_ 1 _ rfl; (with_reducible repeat (first | refine kN ?_ _ | refine kD ?_ | refine kA ?_ _)); refine kP (cs := #[.int .i64 0, .int .i64 0, .int .u8 0, .int .i64 0, .int .i64 0, .int .i64 0, .int .i64 0, .bool false]) ?_ 0 _ rfl; (with_reducible repeat (first | refine kN ?_ _ | refine kD ?_ | refine kA ?_ _)); exact BK137.out) Tryd.underlying25 rfl (by kernel_rfl)) rfl ?_
     exact ⟨by first | rfl | (simp [errW_none, errW_some] <;> rfl) | (simp [*, errW_none, errW_some] <;> rfl), by repeat (first | (with_reducible first | exact HB.out | apply kL | apply kM | apply kE | refine kS ?_ GE135.out | refine kS ?_ GE136.out | refine kS ?_ GE137.out | refine kS ?_ GE145.out) | exact HB.out)⟩
    ·rw [if_neg c46] at H
     have c46b0 : (a1_2 == 1) = false := beq_eq_false_iff_ne.mpr c46
     have c46b1 : (a1_2 != 1) = true := bne_iff_ne.mpr c46
     by_cases c56 : a1_2 = 3
     ·rw [if_pos c56] at H
      have c56b0 : (a1_2 == 3) = true := beq_iff_eq.mpr c56
      have c56b1 : (a1_2 != 3) = false := bne_eq_false_iff_eq.mpr c56
      clear c56
      by_cases c57 : a2_5 = 1
      ·rw [if_pos c57] at H
       have c57b0 : (a2_5 == 1) = true := beq_iff_eq.mpr c57
       have c57b1 : (a2_5 != 1) = false := bne_eq_false_iff_eq.mpr c57
       clear c57
       by_cases c58 : a4 = true
       ·subst c58
        have H1 : (some (a1_0, a1_1, 5, a1_3, a1_4, a1_5, a1_6, a1_7, 0)) = some (r1, r2, r3, r4, r5, r6, r7, r8, r9) := by rw [if_pos rfl] at H; try exact H
        clear H
        have H := H1
        clear H1
        simp only [Option.some.injEq, Prod.mk.injEq] at H
        obtain ⟨rfl, rfl, rfl, rfl, rfl, rfl, rfl, rfl, rfl⟩ := H
        have hnb59 := NB135_136.out
        have hnc59 := NB136_135.out
        have hnb60 := NB135_137.out
        have hnc60 := NB137_135.out
        have hnb61 := NB135_145.out
        have hnc61 := NB145_135.out
        have hcz62_0 : wc.cell? ⟨gb135, 0, none⟩ = some (.int .i64 a1_0) := (kC BK135.out 0).trans rfl
        have hcz62_1 : wc.cell? ⟨gb135, 1, none⟩ = some (.int .i64 a1_1) := (kC BK135.out 1).trans rfl
        have hcz62_2 : wc.cell? ⟨gb135, 2, none⟩ = some (.int .u8 a1_2) := (kC BK135.out 2).trans rfl
        have hcz62_3 : wc.cell? ⟨gb135, 3, none⟩ = some (.int .i64 a1_3) := (kC BK135.out 3).trans rfl
        have hcz62_4 : wc.cell? ⟨gb135, 4, none⟩ = some (.int .i64 a1_4) := (kC BK135.out 4).trans rfl
        have hcz62_5 : wc.cell? ⟨gb135, 5, none⟩ = some (.int .i64 a1_5) := (kC BK135.out 5).trans rfl
        have hcz62_6 : wc.cell? ⟨gb135, 6, none⟩ = some (.int .i64 a1_6) := (kC BK135.out 6).trans rfl
        have hcz62_7 : wc.cell? ⟨gb135, 7, none⟩ = some (.bool a1_7) := (kC BK135.out 7).trans rfl
        have hfz62_0 := kF BK135.out 0
        have hfz62_1 := kF BK135.out 1
        have hfz62_2 := kF BK135.out 2
        have hfz62_3 := kF BK135.out 3
        have hfz62_4 := kF BK135.out 4
        have hfz62_5 := kF BK135.out 5
        have hfz62_6 := kF BK135.out 6
        have hfz62_7 := kF BK135.out 7
        have hnb63 := NB137_136.out
        have hnc63 := NB136_137.out
        have hnb64 := NB137_145.out
        have hnc64 := NB145_137.out
        have hcz65_0 : wc.cell? ⟨gb137, 0, none⟩ = some (.int .i64 0) := (kC BK137.out 0).trans rfl
        have hcz65_1 : wc.cell? ⟨gb137, 1, none⟩ = some (.int .i64 0) := (kC BK137.out 1).trans rfl
        have hcz65_2 : wc.cell? ⟨gb137, 2, none⟩ = some (.int .u8 0) := (kC BK137.out 2).trans rfl
        have hcz65_3 : wc.cell? ⟨gb137, 3, none⟩ = some (.int .i64 0) := (kC BK137.out 3).trans rfl
        have hcz65_4 : wc.cell? ⟨gb137, 4, none⟩ = some (.int .i64 0) := (kC BK137.out 4).trans rfl
        have hcz65_5 : wc.cell? ⟨gb137, 5, none⟩ = some (.int .i64 0) := (kC BK137.out 5).trans rfl
        have hcz65_6 : wc.cell? ⟨gb137, 6, none⟩ = some (.int .i64 0) := (kC BK137.out 6).trans rfl
        have hcz65_7 : wc.cell? ⟨gb137, 7, none⟩ = some (.bool false) := (kC BK137.out 7).trans rfl
        have hfz65_0 := kF BK137.out 0
        have hfz65_1 := kF BK137.out 1
        have hfz65_2 := kF BK137.out 2
        have hfz65_3 := kF BK137.out 3
        have hfz65_4 := kF BK137.out 4
        have hfz65_5 := kF BK137.out 5
        have hfz65_6 := kF BK137.out 6
        have hfz65_7 := kF BK137.out 7
        go_wp2
        refine bodyPost_ret (results_ct rfl _ _ gb137 25 #[.int .i64 a1_0, .int .i64 a1_1, .int .u8 5, .int .i64 a1_3, .int .i64 a1_4, .int .i64 a1_5, .int .i64 a1_6, .bool a1_7] (0, 0) _ rfl (by (with_reducible repeat (first | refine kN ?_ _ | refine kD ?_ | refine kA ?_ _)); refine kP (cs := #[.int .i64 a1_0, .int .i64 a1_1, .int .u8 5, .int .i64 a1_3, .int .i64 a1_4, .int .i64 a1_5, .int .i64 a1_6, .bool false]) ?_ 7 _ rfl; (with_reducible repeat (first | refine kN ?_ _ | refine kD ?_ | refine kA ?_ _)); refine kP (cs := #[.int .i64 a1_0, .int .i64 a1_1, .int .u8 5, .int .i64 a1_3, .int .i64 a1_4, .int .i64 a1_5, .int .i64 0, .bool false]) ?_ 6 _ rfl; (with_reducible repeat (first | refine kN ?_ _ | refine kD ?_ | refine kA ?_ _)); refine kP (cs := #[.int .i64 a1_0, .int .i64 a1_1, .int .u8 5, .int .i64 a1_3, .int .i64 a1_4, .int .i64 0, .int .i64 0, .bool false]) ?_ 5 _ rfl; (with_reducible repeat (first | refine kN ?_ _ | refine kD ?_ | refine kA ?_ _)); refine kP (cs := #[.int .i64 a1_0, .int .i64 a1_1, .int .u8 5, .int .i64 a1_3, .int .i64 0, .int .i64 0, .int .i64 0, .bool false]) ?_ 4 _ rfl; (with_reducible repeat (first | refine kN ?_ _ | refine kD ?_ | refine kA ?_ _)); refine kP (cs := #[.int .i64 a1_0, .int .i64 a1_1, .int .u8 5, .int .i64 0, .int .i64 0, .int .i64 0, .int .i64 0, .bool false]) ?_ 3 _ rfl; (with_reducible repeat (first | refine kN ?_ _ | refine kD ?_ | refine kA ?_ _)); refine kP (cs := #[.int .i64 a1_0, .int .i64 a1_1, .int .u8 0, .int .i64 0, .int .i64 0, .int .i64 0, .int .i64 0, .bool false]) ?_ 2 _ rfl; (with_reducible repeat (first | refine kN ?_ _ | refine kD ?_ | refine kA ?_ _)); refine kP (cs := #[.int .i64 a1_0, .int .i64 0, .int .u8 0, .int .i64 0, .int .i64 0, .int .i64 0, .int .i64 0, .bool false]) ?_ 1 _ rfl; (with_reducible repeat (first | refine kN ?_ _ | refine kD ?_ | refine kA ?_ _)); refine kP (cs := #[.int .i64 0, .int .i64 0, .int .u8 0, .int .i64 0, .int .i64 0, .int .i64 0, .int .i64 0, .bool false]) ?_ 0 _ rfl; (with_reducible repeat (first | refine kN ?_ _ | refine kD ?_ | refine kA ?_ _)); refine kR ?_ NB137_135.out _; (with_reducible repeat (first | refine kN ?_ _ | refine kD ?_ | refine kA ?_ _)); exact BK137.out) Tryd.underlying25 rfl (by kernel_rfl)) rfl ?_
        exact ⟨by first | rfl | (simp [errW_none, errW_some] <;> rfl) | (simp [*, errW_none, errW_some] <;> rfl), by repeat (first | (with_reducible first | exact HB.out | apply kL | apply kM | apply kE | refine kS ?_ GE135.out | refine kS ?_ GE136.out | refine kS ?_ GE137.out | refine kS ?_ GE145.out) | exact HB.out)⟩
       ·replace c58 := Bool.eq_false_iff.mpr c58
        subst c58
        have H1 : (some (a1_0, a1_1, 4, a1_3, a1_4, a1_5, a1_6, a1_7, 0)) = some (r1, r2, r3, r4, r5, r6, r7, r8, r9) := by rw [if_neg (show ¬ (false = true) by decide)] at H; try exact H
        clear H
        have H := H1
        clear H1
        simp only [Option.some.injEq, Prod.mk.injEq] at H
        obtain ⟨rfl, rfl, rfl, rfl, rfl, rfl, rfl, rfl, rfl⟩ := H
        have hnb66 := NB135_136.out
        have hnc66 := NB136_135.out
        have hnb67 := NB135_137.out
        have hnc67 := NB137_135.out
        have hnb68 := NB135_145.out
        have hnc68 := NB145_135.out
        have hcz69_0 : wc.cell? ⟨gb135, 0, none⟩ = some (.int .i64 a1_0) := (kC BK135.out 0).trans rfl
        have hcz69_1 : wc.cell? ⟨gb135, 1, none⟩ = some (.int .i64 a1_1) := (kC BK135.out 1).trans rfl
        have hcz69_2 : wc.cell? ⟨gb135, 2, none⟩ = some (.int .u8 a1_2) := (kC BK135.out 2).trans rfl
        have hcz69_3 : wc.cell? ⟨gb135, 3, none⟩ = some (.int .i64 a1_3) := (kC BK135.out 3).trans rfl
        have hcz69_4 : wc.cell? ⟨gb135, 4, none⟩ = some (.int .i64 a1_4) := (kC BK135.out 4).trans rfl
        have hcz69_5 : wc.cell? ⟨gb135, 5, none⟩ = some (.int .i64 a1_5) := (kC BK135.out 5).trans rfl
        have hcz69_6 : wc.cell? ⟨gb135, 6, none⟩ = some (.int .i64 a1_6) := (kC BK135.out 6).trans rfl
        have hcz69_7 : wc.cell? ⟨gb135, 7, none⟩ = some (.bool a1_7) := (kC BK135.out 7).trans rfl
        have hfz69_0 := kF BK135.out 0
        have hfz69_1 := kF BK135.out 1
        have hfz69_2 := kF BK135.out 2
        have hfz69_3 := kF BK135.out 3
        have hfz69_4 := kF BK135.out 4
        have hfz69_5 := kF BK135.out 5
        have hfz69_6 := kF BK135.out 6
        have hfz69_7 := kF BK135.out 7
        have hnb70 := NB137_136.out
        have hnc70 := NB136_137.out
        have hnb71 := NB137_145.out
        have hnc71 := NB145_137.out
        have hcz72_0 : wc.cell? ⟨gb137, 0, none⟩ = some (.int .i64 0) := (kC BK137.out 0).trans rfl
        have hcz72_1 : wc.cell? ⟨gb137, 1, none⟩ = some (.int .i64 0) := (kC BK137.out 1).trans rfl
        have hcz72_2 : wc.cell? ⟨gb137, 2, none⟩ = some (.int .u8 0) := (kC BK137.out 2).trans rfl
        have hcz72_3 : wc.cell? ⟨gb137, 3, none⟩ = some (.int .i64 0) := (kC BK137.out 3).trans rfl
        have hcz72_4 : wc.cell? ⟨gb137, 4, none⟩ = some (.int .i64 0) := (kC BK137.out 4).trans rfl
        have hcz72_5 : wc.cell? ⟨gb137, 5, none⟩ = some (.int .i64 0) := (kC BK137.out 5).trans rfl
        have hcz72_6 : wc.cell? ⟨gb137, 6, none⟩ = some (.int .i64 0) := (kC BK137.out 6).trans rfl
        have hcz72_7 : wc.cell? ⟨gb137, 7, none⟩ = some (.bool false) := (kC BK137.out 7).trans rfl
        have hfz72_0 := kF BK137.out 0
        have hfz72_1 := kF BK137.out 1
        have hfz72_2 := kF BK137.out 2
        have hfz72_3 := kF BK137.out 3
        have hfz72_4 := kF BK137.out 4
        have hfz72_5 := kF BK137.out 5
        have hfz72_6 := kF BK137.out 6
        have hfz72_7 := kF BK137.out 7
        go_wp2
        refine bodyPost_ret (results_ct rfl _ _ gb137 25 #[.int .i64 a1_0, .int .i64 a1_1, .int .u8 4, .int .i64 a1_3, .int .i64 a1_4, .int .i64 a1_5, .int .i64 a1_6, .bool a1_7] (0, 0) _ rfl (by (with_reducible repeat (first | refine kN ?_ _ | refine kD ?_ | refine kA ?_ _)); refine kP (cs := #[.int .i64 a1_0, .int .i64 a1_1, .int .u8 4, .int .i64 a1_3, .int .i64 a1_4, .int .i64 a1_5, .int .i64 a1_6, .bool false]) ?_ 7 _ rfl; (with_reducible repeat (first | refine kN ?_ _ | refine kD ?_ | refine kA ?_ _)); refine kP (cs := #[.int .i64 a1_0, .int .i64 a1_1, .int .u8 4, .int .i64 a1_3, .int .i64 a1_4, .int .i64 a1_5, .int .i64 0, .bool false]) ?_ 6 _ rfl; (with_reducible repeat (first | refine kN ?_ _ | refine kD ?_ | refine kA ?_ _)); refine kP (cs := #[.int .i64 a1_0, .int .i64 a1_1, .int .u8 4, .int .i64 a1_3, .int .i64 a1_4, .int .i64 0, .int .i64 0, .bool false]) ?_ 5 _ rfl; (with_reducible repeat (first | refine kN ?_ _ | refine kD ?_ | refine kA ?_ _)); refine kP (cs := #[.int .i64 a1_0, .int .i64 a1_1, .int .u8 4, .int .i64 a1_3, .int .i64 0, .int .i64 0, .int .i64 0, .bool false]) ?_ 4 _ rfl; (with_reducible repeat (first | refine kN ?_ _ | refine kD ?_ | refine kA ?_ _)); refine kP (cs := #[.int .i64 a1_0, .int .i64 a1_1, .int .u8 4, .int .i64 0, .int .i64 0, .int .i64 0, .int .i64 0, .bool false]) ?_ 3 _ rfl; (with_reducible repeat (first | refine kN ?_ _ | refine kD ?_ | refine kA ?_ _)); refine kP (cs := #[.int .i64 a1_0, .int .i64 a1_1, .int .u8 0, .int .i64 0, .int .i64 0, .int .i64 0, .int .i64 0, .bool false]) ?_ 2 _ rfl; (with_reducible repeat (first | refine kN ?_ _ | refine kD ?_ | refine kA ?_ _)); refine kP (cs := #[.int .i64 a1_0, .int .i64 0, .int .u8 0, .int .i64 0, .int .i64 0, .int .i64 0, .int .i64 0, .bool false]) ?_ 1 _ rfl; (with_reducible repeat (first | refine kN ?_ _ | refine kD ?_ | refine kA ?_ _)); refine kP (cs := #[.int .i64 0, .int .i64 0, .int .u8 0, .int .i64 0, .int .i64 0, .int .i64 0, .int .i64 0, .bool false]) ?_ 0 _ rfl; (with_reducible repeat (first | refine kN ?_ _ | refine kD ?_ | refine kA ?_ _)); refine kR ?_ NB137_135.out _; (with_reducible repeat (first | refine kN ?_ _ | refine kD ?_ | refine kA ?_ _)); exact BK137.out) Tryd.underlying25 rfl (by kernel_rfl)) rfl ?_
        exact ⟨by first | rfl | (simp [errW_none, errW_some] <;> rfl) | (simp [*, errW_none, errW_some] <;> rfl), by repeat (first | (with_reducible first | exact HB.out | apply kL | apply kM | apply kE | refine kS ?_ GE135.out | refine kS ?_ GE136.out | refine kS ?_ GE137.out | refine kS ?_ GE145.out) | exact HB.out)⟩
      ·rw [if_neg c57] at H
       have c57b0 : (a2_5 == 1) = false := beq_eq_false_iff_ne.mpr c57
       have c57b1 : (a2_5 != 1) = true := bne_iff_ne.mpr c57
       replace H := Option.bind_eq_some_iff.mp H
       obtain ⟨⟨t154, t155, t156, t157, t158, t159, t160, t161⟩, A730, H⟩ := H
       replace H : (some (t154, t155, t156, t157, t158, t159, t160, t161, 0)) = some (r1, r2, r3, r4, r5, r6, r7, r8, r9) := H
       have A73 := Aside0.mk A730
       clear A730
       simp only [Option.some.injEq, Prod.mk.injEq] at H
       obtain ⟨rfl, rfl, rfl, rfl, rfl, rfl, rfl, rfl, rfl⟩ := H
       have hnb74 := NB135_136.out
       have hnc74 := NB136_135.out
       have hnb75 := NB135_137.out
       have hnc75 := NB137_135.out
       have hnb76 := NB135_145.out
       have hnc76 := NB145_135.out
       have hcz77_0 : wc.cell? ⟨gb135, 0, none⟩ = some (.int .i64 a1_0) := (kC BK135.out 0).trans rfl
       have hcz77_1 : wc.cell? ⟨gb135, 1, none⟩ = some (.int .i64 a1_1) := (kC BK135.out 1).trans rfl
       have hcz77_2 : wc.cell? ⟨gb135, 2, none⟩ = some (.int .u8 a1_2) := (kC BK135.out 2).trans rfl
       have hcz77_3 : wc.cell? ⟨gb135, 3, none⟩ = some (.int .i64 a1_3) := (kC BK135.out 3).trans rfl
       have hcz77_4 : wc.cell? ⟨gb135, 4, none⟩ = some (.int .i64 a1_4) := (kC BK135.out 4).trans rfl
       have hcz77_5 : wc.cell? ⟨gb135, 5, none⟩ = some (.int .i64 a1_5) := (kC BK135.out 5).trans rfl
       have hcz77_6 : wc.cell? ⟨gb135, 6, none⟩ = some (.int .i64 a1_6) := (kC BK135.out 6).trans rfl
       have hcz77_7 : wc.cell? ⟨gb135, 7, none⟩ = some (.bool a1_7) := (kC BK135.out 7).trans rfl
       have hfz77_0 := kF BK135.out 0
       have hfz77_1 := kF BK135.out 1
       have hfz77_2 := kF BK135.out 2
       have hfz77_3 := kF BK135.out 3
       have hfz77_4 := kF BK135.out 4
       have hfz77_5 := kF BK135.out 5
       have hfz77_6 := kF BK135.out 6
       have hfz77_7 := kF BK135.out 7
       go_wp2_with (first | ((with_reducible refine gate_callee (f := 31) rfl ?_); refine goesL_ (some 52) rfl rfl Tryd.func31 (by kernel_rfl) rfl #[.agg #[.int .i64 a1_0, .int .i64 a1_1, .int .u8 a1_2, .int .i64 a1_3, .int .i64 a1_4, .int .i64 a1_5, .int .i64 a1_6, .bool a1_7]] rfl (by (try simp only [List.map_toArray, List.map_cons, List.map_nil]); first | done | rfl | (simp only [List.length_drop, List.length_take]; rfl)) ?_; (with_reducible refine (cycle_back.calls a1_0 a1_1 a1_2 a1_3 a1_4 a1_5 a1_6 a1_7 t154 t155 t156 t157 t158 t159 t160 t161 _ A73.out).mono ?_); rintro e w78 ⟨rfl, hb⟩; refine ⟨_, rfl, ?_⟩; have n0_ := Aside0.mk (blk_below (g := gb135) (o := .cells #[.int .i64 a1_0, .int .i64 a1_1, .int .u8 a1_2, .int .i64 a1_3, .int .i64 a1_4, .int .i64 a1_5, .int .i64 a1_6, .bool a1_7] 25 (0, 0)) (by (with_reducible repeat (first | refine kN ?_ _ | refine kD ?_ | refine kA ?_ _)); exact BK135.out) hb); have n1_ := Aside0.mk (blk_below (g := gb136) (o := .cells #[.int .u8 a2_0, .int .i64 a2_1, .int .i64 a2_2, .int .i64 a2_3, .int .i64 a2_4, .int .u8 0] 28 (0, 0)) (by (with_reducible repeat (first | refine kN ?_ _ | refine kD ?_ | refine kA ?_ _)); exact BK136.out) hb); have n2_ := Aside0.mk (blk_below (g := gb137) (o := .cells #[.int .i64 0, .int .i64 0, .int .u8 0, .int .i64 0, .int .i64 0, .int .i64 0, .int .i64 0, .bool false] 25 (0, 0)) (by (with_reducible repeat (first | refine kN ?_ _ | refine kD ?_ | refine kA ?_ _)); exact BK137.out) hb); have n3_ := Aside0.mk (blk_below (g := gb145) (o := .cells #[.int .u8 t138, .int .i64 t139, .int .i64 t140, .int .i64 t141, .int .i64 t142, .int .u8 t143] 28 (0, 0)) (by (with_reducible repeat (first | refine kN ?_ _ | refine kD ?_ | refine kA ?_ _)); exact BK145.out) hb); have n4_ := Aside0.mk (below_step (by repeat (first | (with_reducible first | exact HB.out | apply kL | apply kM | apply kE | refine kS ?_ GE135.out | refine kS ?_ GE136.out | refine kS ?_ GE137.out | refine kS ?_ GE145.out) | exact HB.out)) hb); clear BK135; clear BK136; clear BK137; clear BK145; clear HB; have BK135 := n0_; have BK136 := n1_; have BK137 := n2_; have BK145 := n3_; have HB := n4_; clear n0_ n1_ n2_ n3_ n4_; (try clear hb); (try clear hb2); (try clear hk); (try clear hi); have hnb79 := NB137_136.out; have hnc79 := NB136_137.out; have hnb80 := NB137_145.out; have hnc80 := NB145_137.out; have hcz81_0 : w78.cell? ⟨gb137, 0, none⟩ = some (.int .i64 0) := (kC BK137.out 0).trans rfl; have hcz81_1 : w78.cell? ⟨gb137, 1, none⟩ = some (.int .i64 0) := (kC BK137.out 1).trans rfl; have hcz81_2 : w78.cell? ⟨gb137, 2, none⟩ = some (.int .u8 0) := (kC BK137.out 2).trans rfl; have hcz81_3 : w78.cell? ⟨gb137, 3, none⟩ = some (.int .i64 0) := (kC BK137.out 3).trans rfl; have hcz81_4 : w78.cell? ⟨gb137, 4, none⟩ = some (.int .i64 0) := (kC BK137.out 4).trans rfl; have hcz81_5 : w78.cell? ⟨gb137, 5, none⟩ = some (.int .i64 0) := (kC BK137.out 5).trans rfl; have hcz81_6 : w78.cell? ⟨gb137, 6, none⟩ = some (.int .i64 0) := (kC BK137.out 6).trans rfl; have hcz81_7 : w78.cell? ⟨gb137, 7, none⟩ = some (.bool false) := (kC BK137.out 7).trans rfl; have hfz81_0 := kF BK137.out 0; have hfz81_1 := kF BK137.out 1; have hfz81_2 := kF BK137.out 2; have hfz81_3 := kF BK137.out 3; have hfz81_4 := kF BK137.out 4; have hfz81_5 := kF BK137.out 5; have hfz81_6 := kF BK137.out 6; have hfz81_7 := kF BK137.out 7))
       refine bodyPost_ret (results_ct rfl _ _ gb137 25 #[.int .i64 t154, .int .i64 t155, .int .u8 t156, .int .i64 t157, .int .i64 t158, .int .i64 t159, .int .i64 t160, .bool t161] (0, 0) _ rfl (by (with_reducible repeat (first | refine kN ?_ _ | refine kD ?_ | refine kA ?_ _)); refine kP (cs := #[.int .i64 t154, .int .i64 t155, .int .u8 t156, .int .i64 t157, .int .i64 t158, .int .i64 t159, .int .i64 t160, .bool false]) ?_ 7 _ rfl; (with_reducible repeat (first | refine kN ?_ _ | refine kD ?_ | refine kA ?_ _)); refine kP (cs := #[.int .i64 t154, .int .i64 t155, .int .u8 t156, .int .i64 t157, .int .i64 t158, .int .i64 t159, .int .i64 0, .bool false]) ?_ 6 _ rfl; (with_reducible repeat (first | refine kN ?_ _ | refine kD ?_ | refine kA ?_ _)); refine kP (cs := #[.int .i64 t154, .int .i64 t155, .int .u8 t156, .int .i64 t157, .int .i64 t158, .int .i64 0, .int .i64 0, .bool false]) ?_ 5 _ rfl; (with_reducible repeat (first | refine kN ?_ _ | refine kD ?_ | refine kA ?_ _)); refine kP (cs := #[.int .i64 t154, .int .i64 t155, .int .u8 t156, .int .i64 t157, .int .i64 0, .int .i64 0, .int .i64 0, .bool false]) ?_ 4 _ rfl; (with_reducible repeat (first | refine kN ?_ _ | refine kD ?_ | refine kA ?_ _)); refine kP (cs := #[.int .i64 t154, .int .i64 t155, .int .u8 t156, .int .i64 0, .int .i64 0, .int .i64 0, .int .i64 0, .bool false]) ?_ 3 _ rfl; (with_reducible repeat (first | refine kN ?_ _ | refine kD ?_ | refine kA ?_ _)); refine kP (cs := #[.int .i64 t154, .int .i64 t155, .int .u8 0, .int .i64 0, .int .i64 0, .int .i64 0, .int .i64 0, .bool false]) ?_ 2 _ rfl; (with_reducible repeat (first | refine kN ?_ _ | refine kD ?_ | refine kA ?_ _)); refine kP (cs := #[.int .i64 t154, .int .i64 0, .int .u8 0, .int .i64 0, .int .i64 0, .int .i64 0, .int .i64 0, .bool false]) ?_ 1 _ rfl; (with_reducible repeat (first | refine kN ?_ _ | refine kD ?_ | refine kA ?_ _)); refine kP (cs := #[.int .i64 0, .int .i64 0, .int .u8 0, .int .i64 0, .int .i64 0, .int .i64 0, .int .i64 0, .bool false]) ?_ 0 _ rfl; (with_reducible repeat (first | refine kN ?_ _ | refine kD ?_ | refine kA ?_ _)); exact BK137.out) Tryd.underlying25 rfl (by kernel_rfl)) rfl ?_
       exact ⟨by first | rfl | (simp [errW_none, errW_some] <;> rfl) | (simp [*, errW_none, errW_some] <;> rfl), by repeat (first | (with_reducible first | exact HB.out | apply kL | apply kM | apply kE | refine kS ?_ GE135.out | refine kS ?_ GE136.out | refine kS ?_ GE137.out | refine kS ?_ GE145.out) | exact HB.out)⟩
     ·rw [if_neg c56] at H
      have c56b0 : (a1_2 == 3) = false := beq_eq_false_iff_ne.mpr c56
      have c56b1 : (a1_2 != 3) = true := bne_iff_ne.mpr c56
      by_cases c82 : a1_2 = 4
      ·rw [if_pos c82] at H
       have c82b0 : (a1_2 == 4) = true := beq_iff_eq.mpr c82
       have c82b1 : (a1_2 != 4) = false := bne_eq_false_iff_eq.mpr c82
       clear c82
       by_cases c83 : a2_5 = 1
       ·rw [if_pos c83] at H
        have c83b0 : (a2_5 == 1) = true := beq_iff_eq.mpr c83
        have c83b1 : (a2_5 != 1) = false := bne_eq_false_iff_eq.mpr c83
        clear c83
        simp only [Option.some.injEq, Prod.mk.injEq] at H
        obtain ⟨rfl, rfl, rfl, rfl, rfl, rfl, rfl, rfl, rfl⟩ := H
        have hnb84 := NB135_136.out
        have hnc84 := NB136_135.out
        have hnb85 := NB135_137.out
        have hnc85 := NB137_135.out
        have hnb86 := NB135_145.out
        have hnc86 := NB145_135.out
        have hcz87_0 : wc.cell? ⟨gb135, 0, none⟩ = some (.int .i64 a1_0) := (kC BK135.out 0).trans rfl
        have hcz87_1 : wc.cell? ⟨gb135, 1, none⟩ = some (.int .i64 a1_1) := (kC BK135.out 1).trans rfl
        have hcz87_2 : wc.cell? ⟨gb135, 2, none⟩ = some (.int .u8 a1_2) := (kC BK135.out 2).trans rfl
        have hcz87_3 : wc.cell? ⟨gb135, 3, none⟩ = some (.int .i64 a1_3) := (kC BK135.out 3).trans rfl
        have hcz87_4 : wc.cell? ⟨gb135, 4, none⟩ = some (.int .i64 a1_4) := (kC BK135.out 4).trans rfl
        have hcz87_5 : wc.cell? ⟨gb135, 5, none⟩ = some (.int .i64 a1_5) := (kC BK135.out 5).trans rfl
        have hcz87_6 : wc.cell? ⟨gb135, 6, none⟩ = some (.int .i64 a1_6) := (kC BK135.out 6).trans rfl
        have hcz87_7 : wc.cell? ⟨gb135, 7, none⟩ = some (.bool a1_7) := (kC BK135.out 7).trans rfl
        have hfz87_0 := kF BK135.out 0
        have hfz87_1 := kF BK135.out 1
        have hfz87_2 := kF BK135.out 2
        have hfz87_3 := kF BK135.out 3
        have hfz87_4 := kF BK135.out 4
        have hfz87_5 := kF BK135.out 5
        have hfz87_6 := kF BK135.out 6
        have hfz87_7 := kF BK135.out 7
        have hnb88 := NB137_136.out
        have hnc88 := NB136_137.out
        have hnb89 := NB137_145.out
        have hnc89 := NB145_137.out
        have hcz90_0 : wc.cell? ⟨gb137, 0, none⟩ = some (.int .i64 0) := (kC BK137.out 0).trans rfl
        have hcz90_1 : wc.cell? ⟨gb137, 1, none⟩ = some (.int .i64 0) := (kC BK137.out 1).trans rfl
        have hcz90_2 : wc.cell? ⟨gb137, 2, none⟩ = some (.int .u8 0) := (kC BK137.out 2).trans rfl
        have hcz90_3 : wc.cell? ⟨gb137, 3, none⟩ = some (.int .i64 0) := (kC BK137.out 3).trans rfl
        have hcz90_4 : wc.cell? ⟨gb137, 4, none⟩ = some (.int .i64 0) := (kC BK137.out 4).trans rfl
        have hcz90_5 : wc.cell? ⟨gb137, 5, none⟩ = some (.int .i64 0) := (kC BK137.out 5).trans rfl
        have hcz90_6 : wc.cell? ⟨gb137, 6, none⟩ = some (.int .i64 0) := (kC BK137.out 6).trans rfl
        have hcz90_7 : wc.cell? ⟨gb137, 7, none⟩ = some (.bool false) := (kC BK137.out 7).trans rfl
        have hfz90_0 := kF BK137.out 0
        have hfz90_1 := kF BK137.out 1
        have hfz90_2 := kF BK137.out 2
        have hfz90_3 := kF BK137.out 3
        have hfz90_4 := kF BK137.out 4
        have hfz90_5 := kF BK137.out 5
        have hfz90_6 := kF BK137.out 6
        have hfz90_7 := kF BK137.out 7
        go_wp2
        refine bodyPost_ret (results_ct rfl _ _ gb137 25 #[.int .i64 a1_0, .int .i64 a1_1, .int .u8 7, .int .i64 a1_3, .int .i64 a1_4, .int .i64 a1_5, .int .i64 a1_6, .bool a1_7] (0, 0) _ rfl (by (with_reducible repeat (first | refine kN ?_ _ | refine kD ?_ | refine kA ?_ _)); refine kP (cs := #[.int .i64 a1_0, .int .i64 a1_1, .int .u8 7, .int .i64 a1_3, .int .i64 a1_4, .int .i64 a1_5, .int .i64 a1_6, .bool false]) ?_ 7 _ rfl; (with_reducible repeat (first | refine kN ?_ _ | refine kD ?_ | refine kA ?_ _)); refine kP (cs := #[.int .i64 a1_0, .int .i64 a1_1, .int .u8 7, .int .i64 a1_3, .int .i64 a1_4, .int .i64 a1_5, .int .i64 0, .bool false]) ?_ 6 _ rfl; (with_reducible repeat (first | refine kN ?_ _ | refine kD ?_ | refine kA ?_ _)); refine kP (cs := #[.int .i64 a1_0, .int .i64 a1_1, .int .u8 7, .int .i64 a1_3, .int .i64 a1_4, .int .i64 0, .int .i64 0, .bool false]) ?_ 5 _ rfl; (with_reducible repeat (first | refine kN ?_ _ | refine kD ?_ | refine kA ?_ _)); refine kP (cs := #[.int .i64 a1_0, .int .i64 a1_1, .int .u8 7, .int .i64 a1_3, .int .i64 0, .int .i64 0, .int .i64 0, .bool false]) ?_ 4 _ rfl; (with_reducible repeat (first | refine kN ?_ _ | refine kD ?_ | refine kA ?_ _)); refine kP (cs := #[.int .i64 a1_0, .int .i64 a1_1, .int .u8 7, .int .i64 0, .int .i64 0, .int .i64 0, .int .i64 0, .bool false]) ?_ 3 _ rfl; (with_reducible repeat (first | refine kN ?_ _ | refine kD ?_ | refine kA ?_ _)); refine kP (cs := #[.int .i64 a1_0, .int .i64 a1_1, .int .u8 0, .int .i64 0, .int .i64 0, .int .i64 0, .int .i64 0, .bool false]) ?_ 2 _ rfl; (with_reducible repeat (first | refine kN ?_ _ | refine kD ?_ | refine kA ?_ _)); refine kP (cs := #[.int .i64 a1_0, .int .i64 0, .int .u8 0, .int .i64 0, .int .i64 0, .int .i64 0, .int .i64 0, .bool false]) ?_ 1 _ rfl; (with_reducible repeat (first | refine kN ?_ _ | refine kD ?_ | refine kA ?_ _)); refine kP (cs := #[.int .i64 0, .int .i64 0, .int .u8 0, .int .i64 0, .int .i64 0, .int .i64 0, .int .i64 0, .bool false]) ?_ 0 _ rfl; (with_reducible repeat (first | refine kN ?_ _ | refine kD ?_ | refine kA ?_ _)); refine kR ?_ NB137_135.out _; (with_reducible repeat (first | refine kN ?_ _ | refine kD ?_ | refine kA ?_ _)); exact BK137.out) Tryd.underlying25 rfl (by kernel_rfl)) rfl ?_
        exact ⟨by first | rfl | (simp [errW_none, errW_some] <;> rfl) | (simp [*, errW_none, errW_some] <;> rfl), by repeat (first | (with_reducible first | exact HB.out | apply kL | apply kM | apply kE | refine kS ?_ GE135.out | refine kS ?_ GE136.out | refine kS ?_ GE137.out | refine kS ?_ GE145.out) | exact HB.out)⟩
       ·rw [if_neg c83] at H
        have c83b0 : (a2_5 == 1) = false := beq_eq_false_iff_ne.mpr c83
        have c83b1 : (a2_5 != 1) = true := bne_iff_ne.mpr c83
        simp only [Option.some.injEq, Prod.mk.injEq] at H
        obtain ⟨rfl, rfl, rfl, rfl, rfl, rfl, rfl, rfl, rfl⟩ := H
        have hnb91 := NB135_136.out
        have hnc91 := NB136_135.out
        have hnb92 := NB135_137.out
        have hnc92 := NB137_135.out
        have hnb93 := NB135_145.out
        have hnc93 := NB145_135.out
        have hcz94_0 : wc.cell? ⟨gb135, 0, none⟩ = some (.int .i64 a1_0) := (kC BK135.out 0).trans rfl
        have hcz94_1 : wc.cell? ⟨gb135, 1, none⟩ = some (.int .i64 a1_1) := (kC BK135.out 1).trans rfl
        have hcz94_2 : wc.cell? ⟨gb135, 2, none⟩ = some (.int .u8 a1_2) := (kC BK135.out 2).trans rfl
        have hcz94_3 : wc.cell? ⟨gb135, 3, none⟩ = some (.int .i64 a1_3) := (kC BK135.out 3).trans rfl
        have hcz94_4 : wc.cell? ⟨gb135, 4, none⟩ = some (.int .i64 a1_4) := (kC BK135.out 4).trans rfl
        have hcz94_5 : wc.cell? ⟨gb135, 5, none⟩ = some (.int .i64 a1_5) := (kC BK135.out 5).trans rfl
        have hcz94_6 : wc.cell? ⟨gb135, 6, none⟩ = some (.int .i64 a1_6) := (kC BK135.out 6).trans rfl
        have hcz94_7 : wc.cell? ⟨gb135, 7, none⟩ = some (.bool a1_7) := (kC BK135.out 7).trans rfl
        have hfz94_0 := kF BK135.out 0
        have hfz94_1 := kF BK135.out 1
        have hfz94_2 := kF BK135.out 2
        have hfz94_3 := kF BK135.out 3
        have hfz94_4 := kF BK135.out 4
        have hfz94_5 := kF BK135.out 5
        have hfz94_6 := kF BK135.out 6
        have hfz94_7 := kF BK135.out 7
        have hnb95 := NB137_136.out
        have hnc95 := NB136_137.out
        have hnb96 := NB137_145.out
        have hnc96 := NB145_137.out
        have hcz97_0 : wc.cell? ⟨gb137, 0, none⟩ = some (.int .i64 0) := (kC BK137.out 0).trans rfl
        have hcz97_1 : wc.cell? ⟨gb137, 1, none⟩ = some (.int .i64 0) := (kC BK137.out 1).trans rfl
        have hcz97_2 : wc.cell? ⟨gb137, 2, none⟩ = some (.int .u8 0) := (kC BK137.out 2).trans rfl
        have hcz97_3 : wc.cell? ⟨gb137, 3, none⟩ = some (.int .i64 0) := (kC BK137.out 3).trans rfl
        have hcz97_4 : wc.cell? ⟨gb137, 4, none⟩ = some (.int .i64 0) := (kC BK137.out 4).trans rfl
        have hcz97_5 : wc.cell? ⟨gb137, 5, none⟩ = some (.int .i64 0) := (kC BK137.out 5).trans rfl
        have hcz97_6 : wc.cell? ⟨gb137, 6, none⟩ = some (.int .i64 0) := (kC BK137.out 6).trans rfl
        have hcz97_7 : wc.cell? ⟨gb137, 7, none⟩ = some (.bool false) := (kC BK137.out 7).trans rfl
        have hfz97_0 := kF BK137.out 0
        have hfz97_1 := kF BK137.out 1
        have hfz97_2 := kF BK137.out 2
        have hfz97_3 := kF BK137.out 3
        have hfz97_4 := kF BK137.out 4
        have hfz97_5 := kF BK137.out 5
        have hfz97_6 := kF BK137.out 6
        have hfz97_7 := kF BK137.out 7
        go_wp2_with (first | ((with_reducible refine gate_store (t := 25) (p := 10) rfl ?_); refine store_event (t := 25) (p := 10) (v := ?vo_w98) (w1 := ((((((((((wc.setCell ⟨gb135, 2, none⟩ (.int .u8 7)).setCell ⟨gb135, 2, none⟩ (.int .u8 5)).setCell ⟨gb137, 0, none⟩ (.int .i64 a1_0)).setCell ⟨gb137, 1, none⟩ (.int .i64 a1_1)).setCell ⟨gb137, 2, none⟩ (.int .u8 5)).setCell ⟨gb137, 3, none⟩ (.int .i64 a1_3)).setCell ⟨gb137, 4, none⟩ (.int .i64 a1_4)).setCell ⟨gb137, 5, none⟩ (.int .i64 a1_5)).setCell ⟨gb137, 6, none⟩ (.int .i64 a1_6)).setCell ⟨gb137, 7, none⟩ (.bool a1_7))) ?hg ?ho ?hn ?hr ?_; (case ho => rfl); (case hg => rfl); (case hn => rfl); (case hr => first | (go_simp; done) | (go_simp; rfl)); intro w98 hw; have n0_ : Aside0 (w98.heap[gb135]? = some (.cells #[.int .i64 a1_0, .int .i64 a1_1, .int .u8 5, .int .i64 a1_3, .int .i64 a1_4, .int .i64 a1_5, .int .i64 a1_6, .bool a1_7] 25 (0, 0))) := ⟨(by rw [hw]; exact (by (with_reducible repeat (first | refine kN ?_ _ | refine kD ?_ | refine kA ?_ _)); refine kR ?_ NB135_137.out _; (with_reducible repeat (first | refine kN ?_ _ | refine kD ?_ | refine kA ?_ _)); refine kR ?_ NB135_137.out _; (with_reducible repeat (first | refine kN ?_ _ | refine kD ?_ | refine kA ?_ _)); refine kR ?_ NB135_137.out _; (with_reducible repeat (first | refine kN ?_ _ | refine kD ?_ | refine kA ?_ _)); refine kR ?_ NB135_137.out _; (with_reducible repeat (first | refine kN ?_ _ | refine kD ?_ | refine kA ?_ _)); refine kR ?_ NB135_137.out _; (with_reducible repeat (first | refine kN ?_ _ | refine kD ?_ | refine kA ?_ _)); refine kR ?_ NB135_137.out _; (with_reducible repeat (first | refine kN ?_ _ | refine kD ?_ | refine kA ?_ _)); refine kR ?_ NB135_137.out _; (with_reducible repeat (first | refine kN ?_ _ | refine kD ?_ | refine kA ?_ _)); refine kR ?_ NB135_137.out _; (with_reducible repeat (first | refine kN ?_ _ | refine kD ?_ | refine kA ?_ _)); refine kP (cs := #[.int .i64 a1_0, .int .i64 a1_1, .int .u8 7, .int .i64 a1_3, .int .i64 a1_4, .int .i64 a1_5, .int .i64 a1_6, .bool a1_7]) ?_ 2 _ rfl; (with_reducible repeat (first | refine kN ?_ _ | refine kD ?_ | refine kA ?_ _)); refine kP (cs := #[.int .i64 a1_0, .int .i64 a1_1, .int .u8 a1_2, .int .i64 a1_3, .int .i64 a1_4, .int .i64 a1_5, .int .i64 a1_6, .bool a1_7]) ?_ 2 _ rfl; (with_reducible repeat (first | refine kN ?_ _ | refine kD ?_ | refine kA ?_ _)); exact BK135.out))⟩; have n1_ : Aside0 (w98.heap[gb136]? = some (.cells #[.int .u8 a2_0, .int .i64 a2_1, .int .i64 a2_2, .int .i64 a2_3, .int .i64 a2_4, .int .u8 0] 28 (0, 0))) := ⟨(by rw [hw]; exact (by (with_reducible repeat (first | refine kN ?_ _ | refine kD ?_ | refine kA ?_ _)); refine kR ?_ NB136_137.out _; (with_reducible repeat (first | refine kN ?_ _ | refine kD ?_ | refine kA ?_ _)); refine kR ?_ NB136_137.out _; (with_reducible repeat (first | refine kN ?_ _ | refine kD ?_ | refine kA ?_ _)); refine kR ?_ NB136_137.out _; (with_reducible repeat (first | refine kN ?_ _ | refine kD ?_ | refine kA ?_ _)); refine kR ?_ NB136_137.out _; (with_reducible repeat (first | refine kN ?_ _ | refine kD ?_ | refine kA ?_ _)); refine kR ?_ NB136_137.out _; (with_reducible repeat (first | refine kN ?_ _ | refine kD ?_ | refine kA ?_ _)); refine kR ?_ NB136_137.out _; (with_reducible repeat (first | refine kN ?_ _ | refine kD ?_ | refine kA ?_ _)); refine kR ?_ NB136_137.out _; (with_reducible repeat (first | refine kN ?_ _ | refine kD ?_ | refine kA ?_ _)); refine kR ?_ NB136_137.out _; (with_reducible repeat (first | refine kN ?_ _ | refine kD ?_ | refine kA ?_ _)); refine kR ?_ NB136_135.out _; (with_reducible repeat (first | refine kN ?_ _ | refine kD ?_ | refine kA ?_ _)); refine kR ?_ NB136_135.out _; (with_reducible repeat (first | refine kN ?_ _ | refine kD ?_ | refine kA ?_ _)); exact BK136.out))⟩; have n2_ : Aside0 (w98.heap[gb137]? = some (.cells #[.int .i64 a1_0, .int .i64 a1_1, .int .u8 5, .int .i64 a1_3, .int .i64 a1_4, .int .i64 a1_5, .int .i64 a1_6, .bool a1_7] 25 (0, 0))) := ⟨(by rw [hw]; exact (by (with_reducible repeat (first | refine kN ?_ _ | refine kD ?_ | refine kA ?_ _)); refine kP (cs := #[.int .i64 a1_0, .int .i64 a1_1, .int .u8 5, .int .i64 a1_3, .int .i64 a1_4, .int .i64 a1_5, .int .i64 a1_6, .bool false]) ?_ 7 _ rfl; (with_reducible repeat (first | refine kN ?_ _ | refine kD ?_ | refine kA ?_ _)); refine kP (cs := #[.int .i64 a1_0, .int .i64 a1_1, .int .u8 5, .int .i64 a1_3, .int .i64 a1_4, .int .i64 a1_5, .int .i64 0, .bool false]) ?_ 6 _ rfl; (with_reducible repeat (first | refine kN ?_ _ | refine kD ?_ | refine kA ?_ _)); refine kP (cs := #[.int .i64 a1_0, .int .i64 a1_1, .int .u8 5, .int .i64 a1_3, .int .i64 a1_4, .int .i64 0, .int .i64 0, .bool false]) ?_ 5 _ rfl; (with_reducible repeat (first | refine kN ?_ _ | refine kD ?_ | refine kA ?_ _)); refine kP (cs := #[.int .i64 a1_0, .int .i64 a1_1, .int .u8 5, .int .i64 a1_3, .int .i64 0, .int .i64 0, .int .i64 0, .bool false]) ?_ 4 _ rfl; (with_reducible repeat (first | refine kN ?_ _ | refine kD ?_ | refine kA ?_ _)); refine kP (cs := #[.int .i64 a1_0, .int .i64 a1_1, .int .u8 5, .int .i64 0, .int .i64 0, .int .i64 0, .int .i64 0, .bool false]) ?_ 3 _ rfl; (with_reducible repeat (first | refine kN ?_ _ | refine kD ?_ | refine kA ?_ _)); refine kP (cs := #[.int .i64 a1_0, .int .i64 a1_1, .int .u8 0, .int .i64 0, .int .i64 0, .int .i64 0, .int .i64 0, .bool false]) ?_ 2 _ rfl; (with_reducible repeat (first | refine kN ?_ _ | refine kD ?_ | refine kA ?_ _)); refine kP (cs := #[.int .i64 a1_0, .int .i64 0, .int .u8 0, .int .i64 0, .int .i64 0, .int .i64 0, .int .i64 0, .bool false]) ?_ 1 _ rfl; (with_reducible repeat (first | refine kN ?_ _ | refine kD ?_ | refine kA ?_ _)); refine kP (cs := #[.int .i64 0, .int .i64 0, .int .u8 0, .int .i64 0, .int .i64 0, .int .i64 0, .int .i64 0, .bool false]) ?_ 0 _ rfl; (with_reducible repeat (first | refine kN ?_ _ | refine kD ?_ | refine kA ?_ _)); refine kR ?_ NB137_135.out _; (with_reducible repeat (first | refine kN ?_ _ | refine kD ?_ | refine kA ?_ _)); refine kR ?_ NB137_135.out _; (with_reducible repeat (first | refine kN ?_ _ | refine kD ?_ | refine kA ?_ _)); exact BK137.out))⟩; have n3_ : Aside0 (w98.heap[gb145]? = some (.cells #[.int .u8 t138, .int .i64 t139, .int .i64 t140, .int .i64 t141, .int .i64 t142, .int .u8 t143] 28 (0, 0))) := ⟨(by rw [hw]; exact (by (with_reducible repeat (first | refine kN ?_ _ | refine kD ?_ | refine kA ?_ _)); refine kR ?_ NB145_137.out _; (with_reducible repeat (first | refine kN ?_ _ | refine kD ?_ | refine kA ?_ _)); refine kR ?_ NB145_137.out _; (with_reducible repeat (first | refine kN ?_ _ | refine kD ?_ | refine kA ?_ _)); refine kR ?_ NB145_137.out _; (with_reducible repeat (first | refine kN ?_ _ | refine kD ?_ | refine kA ?_ _)); refine kR ?_ NB145_137.out _; (with_reducible repeat (first | refine kN ?_ _ | refine kD ?_ | refine kA ?_ _)); refine kR ?_ NB145_137.out _; (with_reducible repeat (first | refine kN ?_ _ | refine kD ?_ | refine kA ?_ _)); refine kR ?_ NB145_137.out _; (with_reducible repeat (first | refine kN ?_ _ | refine kD ?_ | refine kA ?_ _)); refine kR ?_ NB145_137.out _; (with_reducible repeat (first | refine kN ?_ _ | refine kD ?_ | refine kA ?_ _)); refine kR ?_ NB145_137.out _; (with_reducible repeat (first | refine kN ?_ _ | refine kD ?_ | refine kA ?_ _)); refine kR ?_ NB145_135.out _; (with_reducible repeat (first | refine kN ?_ _ | refine kD ?_ | refine kA ?_ _)); refine kR ?_ NB145_135.out _; (with_reducible repeat (first | refine kN ?_ _ | refine kD ?_ | refine kA ?_ _)); exact BK145.out))⟩; have n4_ : Aside0 (Below w.heap.size w w98) := ⟨(by rw [hw]; exact (by repeat (first | (with_reducible first | exact HB.out | apply kL | apply kM | apply kE | refine kS ?_ GE135.out | refine kS ?_ GE136.out | refine kS ?_ GE137.out | refine kS ?_ GE145.out) | exact HB.out)))⟩; clear hw; clear BK135; clear BK136; clear BK137; clear BK145; clear HB; have BK135 := n0_; have BK136 := n1_; have BK137 := n2_; have BK145 := n3_; have HB := n4_; clear n0_ n1_ n2_ n3_ n4_))
        refine bodyPost_ret (results_ct rfl _ _ gb137 25 #[.int .i64 a1_0, .int .i64 a1_1, .int .u8 5, .int .i64 a1_3, .int .i64 a1_4, .int .i64 a1_5, .int .i64 a1_6, .bool a1_7] (0, 0) _ rfl (by (with_reducible repeat (first | refine kN ?_ _ | refine kD ?_ | refine kA ?_ _)); exact BK137.out) Tryd.underlying25 rfl (by kernel_rfl)) rfl ?_
        exact ⟨by first | rfl | (simp [errW_none, errW_some] <;> rfl) | (simp [*, errW_none, errW_some] <;> rfl), by repeat (first | (with_reducible first | exact HB.out | apply kL | apply kM | apply kE | refine kS ?_ GE135.out | refine kS ?_ GE136.out | refine kS ?_ GE137.out | refine kS ?_ GE145.out) | exact HB.out)⟩
      ·rw [if_neg c82] at H
       have c82b0 : (a1_2 == 4) = false := beq_eq_false_iff_ne.mpr c82
       have c82b1 : (a1_2 != 4) = true := bne_iff_ne.mpr c82
       by_cases c99 : a1_2 = 5
       ·rw [if_pos c99] at H
        have c99b0 : (a1_2 == 5) = true := beq_iff_eq.mpr c99
        have c99b1 : (a1_2 != 5) = false := bne_eq_false_iff_eq.mpr c99
        clear c99
        replace H := Option.bind_eq_some_iff.mp H
        obtain ⟨⟨t162, t163, t164, t165, t166, t167, t168, t169⟩, A1000, H⟩ := H
        replace H : (some (t162, t163, t164, t165, t166, t167, t168, t169, 0)) = some (r1, r2, r3, r4, r5, r6, r7, r8, r9) := H
        have A100 := Aside0.mk A1000
        clear A1000
        simp only [Option.some.injEq, Prod.mk.injEq] at H
        obtain ⟨rfl, rfl, rfl, rfl, rfl, rfl, rfl, rfl, rfl⟩ := H
        have hnb101 := NB135_136.out
        have hnc101 := NB136_135.out
        have hnb102 := NB135_137.out
        have hnc102 := NB137_135.out
        have hnb103 := NB135_145.out
        have hnc103 := NB145_135.out
        have hcz104_0 : wc.cell? ⟨gb135, 0, none⟩ = some (.int .i64 a1_0) := (kC BK135.out 0).trans rfl
        have hcz104_1 : wc.cell? ⟨gb135, 1, none⟩ = some (.int .i64 a1_1) := (kC BK135.out 1).trans rfl
        have hcz104_2 : wc.cell? ⟨gb135, 2, none⟩ = some (.int .u8 a1_2) := (kC BK135.out 2).trans rfl
        have hcz104_3 : wc.cell? ⟨gb135, 3, none⟩ = some (.int .i64 a1_3) := (kC BK135.out 3).trans rfl
        have hcz104_4 : wc.cell? ⟨gb135, 4, none⟩ = some (.int .i64 a1_4) := (kC BK135.out 4).trans rfl
        have hcz104_5 : wc.cell? ⟨gb135, 5, none⟩ = some (.int .i64 a1_5) := (kC BK135.out 5).trans rfl
        have hcz104_6 : wc.cell? ⟨gb135, 6, none⟩ = some (.int .i64 a1_6) := (kC BK135.out 6).trans rfl
        have hcz104_7 : wc.cell? ⟨gb135, 7, none⟩ = some (.bool a1_7) := (kC BK135.out 7).trans rfl
        have hfz104_0 := kF BK135.out 0
        have hfz104_1 := kF BK135.out 1
        have hfz104_2 := kF BK135.out 2
        have hfz104_3 := kF BK135.out 3
        have hfz104_4 := kF BK135.out 4
        have hfz104_5 := kF BK135.out 5
        have hfz104_6 := kF BK135.out 6
        have hfz104_7 := kF BK135.out 7
        go_wp2_with (first | ((with_reducible refine gate_callee (f := 31) rfl ?_); refine goesL_ (some 67) rfl rfl Tryd.func31 (by kernel_rfl) rfl #[.agg #[.int .i64 a1_0, .int .i64 a1_1, .int .u8 a1_2, .int .i64 a1_3, .int .i64 a1_4, .int .i64 a1_5, .int .i64 a1_6, .bool a1_7]] rfl (by (try simp only [List.map_toArray, List.map_cons, List.map_nil]); first | done | rfl | (simp only [List.length_drop, List.length_take]; rfl)) ?_; (with_reducible refine (cycle_back.calls a1_0 a1_1 a1_2 a1_3 a1_4 a1_5 a1_6 a1_7 t162 t163 t164 t165 t166 t167 t168 t169 _ A100.out).mono ?_); rintro e w105 ⟨rfl, hb⟩; refine ⟨_, rfl, ?_⟩; have n0_ := Aside0.mk (blk_below (g := gb135) (o := .cells #[.int .i64 a1_0, .int .i64 a1_1, .int .u8 a1_2, .int .i64 a1_3, .int .i64 a1_4, .int .i64 a1_5, .int .i64 a1_6, .bool a1_7] 25 (0, 0)) (by (with_reducible repeat (first | refine kN ?_ _ | refine kD ?_ | refine kA ?_ _)); exact BK135.out) hb); have n1_ := Aside0.mk (blk_below (g := gb136) (o := .cells #[.int .u8 a2_0, .int .i64 a2_1, .int .i64 a2_2, .int .i64 a2_3, .int .i64 a2_4, .int .u8 0] 28 (0, 0)) (by (with_reducible repeat (first | refine kN ?_ _ | refine kD ?_ | refine kA ?_ _)); exact BK136.out) hb); have n2_ := Aside0.mk (blk_below (g := gb137) (o := .cells #[.int .i64 0, .int .i64 0, .int .u8 0, .int .i64 0, .int .i64 0, .int .i64 0, .int .i64 0, .bool false] 25 (0, 0)) (by (with_reducible repeat (first | refine kN ?_ _ | refine kD ?_ | refine kA ?_ _)); exact BK137.out) hb); have n3_ := Aside0.mk (blk_below (g := gb145) (o := .cells #[.int .u8 t138, .int .i64 t139, .int .i64 t140, .int .i64 t141, .int .i64 t142, .int .u8 t143] 28 (0, 0)) (by (with_reducible repeat (first | refine kN ?_ _ | refine kD ?_ | refine kA ?_ _)); exact BK145.out) hb); have n4_ := Aside0.mk (below_step (by repeat (first | (with_reducible first | exact HB.out | apply kL | apply kM | apply kE | refine kS ?_ GE135.out | refine kS ?_ GE136.out | refine kS ?_ GE137.out | refine kS ?_ GE145.out) | exact HB.out)) hb); clear BK135; clear BK136; clear BK137; clear BK145; clear HB; have BK135 := n0_; have BK136 := n1_; have BK137 := n2_; have BK145 := n3_; have HB := n4_; clear n0_ n1_ n2_ n3_ n4_; (try clear hb); (try clear hb2); (try clear hk); (try clear hi); have hnb106 := NB137_136.out; have hnc106 := NB136_137.out; have hnb107 := NB137_145.out; have hnc107 := NB145_137.out; have hcz108_0 : w105.cell? ⟨gb137, 0, none⟩ = some (.int .i64 0) := (kC BK137.out 0).trans rfl; have hcz108_1 : w105.cell? ⟨gb137, 1, none⟩ = some (.int .i64 0) := (kC BK137.out 1).trans rfl; have hcz108_2 : w105.cell? ⟨gb137, 2, none⟩ = some (.int .u8 0) := (kC BK137.out 2).trans rfl; have hcz108_3 : w105.cell? ⟨gb137, 3, none⟩ = some (.int .i64 0) := (kC BK137.out 3).trans rfl; have hcz108_4 : w105.cell? ⟨gb137, 4, none⟩ = some (.int .i64 0) := (kC BK137.out 4).trans rfl; have hcz108_5 : w105.cell? ⟨gb137, 5, none⟩ = some (.int .i64 0) := (kC BK137.out 5).trans rfl; have hcz108_6 : w105.cell? ⟨gb137, 6, none⟩ = some (.int .i64 0) := (kC BK137.out 6).trans rfl; have hcz108_7 : w105.cell? ⟨gb137, 7, none⟩ = some (.bool false) := (kC BK137.out 7).trans rfl; have hfz108_0 := kF BK137.out 0; have hfz108_1 := kF BK137.out 1; have hfz108_2 := kF BK137.out 2; have hfz108_3 := kF BK137.out 3; have hfz108_4 := kF BK137.out 4; have hfz108_5 := kF BK137.out 5; have hfz108_6 := kF BK137.out 6; have hfz108_7 := kF BK137.out 7))
        refine bodyPost_ret (results_ct rfl _ _ gb137 25 #[.int .i64 t162, .int .i64 t163, .int .u8 t164, .int .i64 t165, .int .i64 t166, .int .i64 t167, .int .i64 t168, .bool t169] (0, 0) _ rfl (by (with_reducible repeat (first | refine kN ?_ _ | refine kD ?_ | refine kA ?_ _)); refine kP (cs := #[.int .i64 t162, .int .i64 t163, .int .u8 t164, .int .i64 t165, .int .i64 t166, .int .i64 t167, .int .i64 t168, .bool false]) ?_ 7 _ rfl; (with_reducible repeat (first | refine kN ?_ _ | refine kD ?_ | refine kA ?_ _)); refine kP (cs := #[.int .i64 t162, .int .i64 t163, .int .u8 t164, .int .i64 t165, .int .i64 t166, .int .i64 t167, .int .i64 0, .bool false]) ?_ 6 _ rfl; (with_reducible repeat (first | refine kN ?_ _ | refine kD ?_ | refine kA ?_ _)); refine kP (cs := #[.int .i64 t162, .int .i64 t163, .int .u8 t164, .int .i64 t165, .int .i64 t166, .int .i64 0, .int .i64 0, .bool false]) ?_ 5 _ rfl; (with_reducible repeat (first | refine kN ?_ _ | refine kD ?_ | refine kA ?_ _)); refine kP (cs := #[.int .i64 t162, .int .i64 t163, .int .u8 t164, .int .i64 t165, .int .i64 0, .int .i64 0, .int .i64 0, .bool false]) ?_ 4 _ rfl; (with_reducible repeat (first | refine kN ?_ _ | refine kD ?_ | refine kA ?_ _)); refine kP (cs := #[.int .i64 t162, .int .i64 t163, .int .u8 t164, .int .i64 0, .int .i64 0, .int .i64 0, .int .i64 0, .bool false]) ?_ 3 _ rfl; (with_reducible repeat (first | refine kN ?_ _ | refine kD ?_ | refine kA ?_ _)); refine kP (cs := #[.int .i64 t162, .int .i64 t163, .int .u8 0, .int .i64 0, .int .i64 0, .int .i64 0, .int .i64 0, .bool false]) ?_ 2 _ rfl; (with_reducible repeat (first | refine kN ?_ _ | refine kD ?_ | refine kA ?_ _)); refine kP (cs := #[.int .i64 t162, .int .i64 0, .int .u8 0, .int .i64 0, .int .i64 0, .int .i64 0, .int .i64 0, .bool false]) ?_ 1 _ rfl; (with_reducible repeat (first | refine kN ?_ _ | refine kD ?_ | refine kA ?_ _)); refine kP (cs := #[.int .i64 0, .int .i64 0, .int .u8 0, .int .i64 0, .int .i64 0, .int .i64 0, .int .i64 0, .bool false]) ?_ 0 _ rfl; (with_reducible repeat (first | refine kN ?_ _ | refine kD ?_ | refine kA ?_ _)); exact BK137.out) Tryd.underlying25 rfl (by kernel_rfl)) rfl ?_
        exact ⟨by first | rfl | (simp [errW_none, errW_some] <;> rfl) | (simp [*, errW_none, errW_some] <;> rfl), by repeat (first | (with_reducible first | exact HB.out | apply kL | apply kM | apply kE | refine kS ?_ GE135.out | refine kS ?_ GE136.out | refine kS ?_ GE137.out | refine kS ?_ GE145.out) | exact HB.out)⟩
       ·rw [if_neg c99] at H
        have c99b0 : (a1_2 == 5) = false := beq_eq_false_iff_ne.mpr c99
        have c99b1 : (a1_2 != 5) = true := bne_iff_ne.mpr c99
        simp only [Option.some.injEq, Prod.mk.injEq] at H
        obtain ⟨rfl, rfl, rfl, rfl, rfl, rfl, rfl, rfl, rfl⟩ := H
        have hnb109 := NB135_136.out
        have hnc109 := NB136_135.out
        have hnb110 := NB135_137.out
        have hnc110 := NB137_135.out
        have hnb111 := NB135_145.out
        have hnc111 := NB145_135.out
        have hcz112_0 : wc.cell? ⟨gb135, 0, none⟩ = some (.int .i64 a1_0) := (kC BK135.out 0).trans rfl
        have hcz112_1 : wc.cell? ⟨gb135, 1, none⟩ = some (.int .i64 a1_1) := (kC BK135.out 1).trans rfl
        have hcz112_2 : wc.cell? ⟨gb135, 2, none⟩ = some (.int .u8 a1_2) := (kC BK135.out 2).trans rfl
        have hcz112_3 : wc.cell? ⟨gb135, 3, none⟩ = some (.int .i64 a1_3) := (kC BK135.out 3).trans rfl
        have hcz112_4 : wc.cell? ⟨gb135, 4, none⟩ = some (.int .i64 a1_4) := (kC BK135.out 4).trans rfl
        have hcz112_5 : wc.cell? ⟨gb135, 5, none⟩ = some (.int .i64 a1_5) := (kC BK135.out 5).trans rfl
        have hcz112_6 : wc.cell? ⟨gb135, 6, none⟩ = some (.int .i64 a1_6) := (kC BK135.out 6).trans rfl
        have hcz112_7 : wc.cell? ⟨gb135, 7, none⟩ = some (.bool a1_7) := (kC BK135.out 7).trans rfl
        have hfz112_0 := kF BK135.out 0
        have hfz112_1 := kF BK135.out 1
        have hfz112_2 := kF BK135.out 2
        have hfz112_3 := kF BK135.out 3
        have hfz112_4 := kF BK135.out 4
        have hfz112_5 := kF BK135.out 5
        have hfz112_6 := kF BK135.out 6
        have hfz112_7 := kF BK135.out 7
        have hnb113 := NB137_136.out
        have hnc113 := NB136_137.out
        have hnb114 := NB137_145.out
        have hnc114 := NB145_137.out
        have hcz115_0 : wc.cell? ⟨gb137, 0, none⟩ = some (.int .i64 0) := (kC BK137.out 0).trans rfl
        have hcz115_1 : wc.cell? ⟨gb137, 1, none⟩ = some (.int .i64 0) := (kC BK137.out 1).trans rfl
        have hcz115_2 : wc.cell? ⟨gb137, 2, none⟩ = some (.int .u8 0) := (kC BK137.out 2).trans rfl
        have hcz115_3 : wc.cell? ⟨gb137, 3, none⟩ = some (.int .i64 0) := (kC BK137.out 3).trans rfl
        have hcz115_4 : wc.cell? ⟨gb137, 4, none⟩ = some (.int .i64 0) := (kC BK137.out 4).trans rfl
        have hcz115_5 : wc.cell? ⟨gb137, 5, none⟩ = some (.int .i64 0) := (kC BK137.out 5).trans rfl
        have hcz115_6 : wc.cell? ⟨gb137, 6, none⟩ = some (.int .i64 0) := (kC BK137.out 6).trans rfl
        have hcz115_7 : wc.cell? ⟨gb137, 7, none⟩ = some (.bool false) := (kC BK137.out 7).trans rfl
        have hfz115_0 := kF BK137.out 0
        have hfz115_1 := kF BK137.out 1
        have hfz115_2 := kF BK137.out 2
        have hfz115_3 := kF BK137.out 3
        have hfz115_4 := kF BK137.out 4
        have hfz115_5 := kF BK137.out 5
        have hfz115_6 := kF BK137.out 6
        have hfz115_7 := kF BK137.out 7
        go_wp2
        refine bodyPost_ret (results_ct rfl _ _ gb137 25 #[.int .i64 a1_0, .int .i64 a1_1, .int .u8 9, .int .i64 a1_3, .int .i64 a1_4, .int .i64 a1_5, .int .i64 a1_6, .bool a1_7] (0, 0) _ rfl (by (with_reducible repeat (first | refine kN ?_ _ | refine kD ?_ | refine kA ?_ _)); refine kP (cs := #[.int .i64 a1_0, .int .i64 a1_1, .int .u8 9, .int .i64 a1_3, .int .i64 a1_4, .int .i64 a1_5, .int .i64 a1_6, .bool false]) ?_ 7 _ rfl; (with_reducible repeat (first | refine kN ?_ _ | refine kD ?_ | refine kA ?_ _)); refine kP (cs := #[.int .i64 a1_0, .int .i64 a1_1, .int .u8 9, .int .i64 a1_3, .int .i64 a1_4, .int .i64 a1_5, .int .i64 0, .bool false]) ?_ 6 _ rfl; (with_reducible repeat (first | refine kN ?_ _ | refine kD ?_ | refine kA ?_ _)); refine kP (cs := #[.int .i64 a1_0, .int .i64 a1_1, .int .u8 9, .int .i64 a1_3, .int .i64 a1_4, .int .i64 0, .int .i64 0, .bool false]) ?_ 5 _ rfl; (with_reducible repeat (first | refine kN ?_ _ | refine kD ?_ | refine kA ?_ _)); refine kP (cs := #[.int .i64 a1_0, .int .i64 a1_1, .int .u8 9, .int .i64 a1_3, .int .i64 0, .int .i64 0, .int .i64 0, .bool false]) ?_ 4 _ rfl; (with_reducible repeat (first | refine kN ?_ _ | refine kD ?_ | refine kA ?_ _)); refine kP (cs := #[.int .i64 a1_0, .int .i64 a1_1, .int .u8 9, .int .i64 0, .int .i64 0, .int .i64 0, .int .i64 0, .bool false]) ?_ 3 _ rfl; (with_reducible repeat (first | refine kN ?_ _ | refine kD ?_ | refine kA ?_ _)); refine kP (cs := #[.int .i64 a1_0, .int .i64 a1_1, .int .u8 0, .int .i64 0, .int .i64 0, .int .i64 0, .int .i64 0, .bool false]) ?_ 2 _ rfl; (with_reducible repeat (first | refine kN ?_ _ | refine kD ?_ | refine kA ?_ _)); refine kP (cs := #[.int .i64 a1_0, .int .i64 0, .int .u8 0, .int .i64 0, .int .i64 0, .int .i64 0, .int .i64 0, .bool false]) ?_ 1 _ rfl; (with_reducible repeat (first | refine kN ?_ _ | refine kD ?_ | refine kA ?_ _)); refine kP (cs := #[.int .i64 0, .int .i64 0, .int .u8 0, .int .i64 0, .int .i64 0, .int .i64 0, .int .i64 0, .bool false]) ?_ 0 _ rfl; (with_reducible repeat (first | refine kN ?_ _ | refine kD ?_ | refine kA ?_ _)); refine kR ?_ NB137_135.out _; (with_reducible repeat (first | refine kN ?_ _ | refine kD ?_ | refine kA ?_ _)); exact BK137.out) Tryd.underlying25 rfl (by kernel_rfl)) rfl ?_
        exact ⟨by first | rfl | (simp [errW_none, errW_some] <;> rfl) | (simp [*, errW_none, errW_some] <;> rfl), by repeat (first | (with_reducible first | exact HB.out | apply kL | apply kM | apply kE | refine kS ?_ GE135.out | refine kS ?_ GE136.out | refine kS ?_ GE137.out | refine kS ?_ GE145.out) | exact HB.out)⟩

end Go.Proofs.YtlfaaogifplgeaaDoor.PA
