-- printed by this workplace: wip/patchprint.py over the kit's print
import Derived.Test.YtlfaaogifplgeaaDoorPAx0
import Derived.Test.YtlfaaogifplgeaaDoorPAx2
import Derived.Test.YtlfaaogifplgeaaDoorPAx4
import Derived.Test.YtlfaaogifplgeaaDoorPAx7
import Derived.Test.YtlfaaogifplgeaaDoorPAx8
namespace Go.Proofs.YtlfaaogifplgeaaDoor.PA
open Go.RowKit Go.Proofs.YtlfaaogifplgeaaDoorW.PrintWords Go.Proofs.YtlfaaogifplgeaaDoorW.PrintLast Go.Proofs.YtlfaaogifplgeaaDoorW.PrintMore
attribute [local go_sem] max2_int min2_int max_two min_two max_three min_three max_four min_four   -- for this text's walks alone
set_option linter.unusedVariables false
set_option linter.unusedSimpArgs false

attribute [local go_sem high] eqA28
/-! ### cycle_Hear: function 18 -/
def cycle_Hear.j0 : Nat → Int → Bool → Int → Bool → Int → Int → Int → Int → Int → Int → Int → Bool → Option (Int × Int × Int × Int × Int × Int × Int × Bool × Int)
 | 0, _, _, _, _, _, _, _, _, _, _, _, _ => none
 | k + 1, x3, x4, x12, x34, x136000, x136001, x136002, x136003, x136004, x136005, x136006, x136007 => if x34 = true then (some (x136000, x136001, x136002, x136003, x136004, x136005, x136006, x136007, 10)) else (if x136002 = 1 then ((cycle_charged.f x136000 x136001 x136002 x136003 x136004 x136005 x136006 x136007 x12 x3 x4).bind fun bt146 => (some (bt146.1, bt146.2.1, bt146.2.2.1, bt146.2.2.2.1, bt146.2.2.2.2.1, bt146.2.2.2.2.2.1, bt146.2.2.2.2.2.2.1, bt146.2.2.2.2.2.2.2, 0))) else (if x136002 = 3 then (if x12 = 1 then (if x4 = true then (some (x136000, x136001, 5, x136003, x136004, x136005, x136006, x136007, 0)) else (some (x136000, x136001, 4, x136003, x136004, x136005, x136006, x136007, 0))) else ((cycle_back.f x136000 x136001 x136002 x136003 x136004 x136005 x136006 x136007).bind fun bt154 => (some (bt154.1, bt154.2.1, bt154.2.2.1, bt154.2.2.2.1, bt154.2.2.2.2.1, bt154.2.2.2.2.2.1, bt154.2.2.2.2.2.2.1, bt154.2.2.2.2.2.2.2, 0)))) else (if x136002 = 4 then (if x12 = 1 then (some (x136000, x136001, 7, x136003, x136004, x136005, x136006, x136007, 0)) else (some (x136000, x136001, 5, x136003, x136004, x136005, x136006, x136007, 0))) else (if x136002 = 5 then ((cycle_back.f x136000 x136001 x136002 x136003 x136004 x136005 x136006 x136007).bind fun bt162 => (some (bt162.1, bt162.2.1, bt162.2.2.1, bt162.2.2.2.1, bt162.2.2.2.2.1, bt162.2.2.2.2.2.1, bt162.2.2.2.2.2.2.1, bt162.2.2.2.2.2.2.2, 0))) else (some (x136000, x136001, 9, x136003, x136004, x136005, x136006, x136007, 0))))))
def cycle_Hear.f (k : Nat) (a0 : Int) (a1_0 : Int) (a1_1 : Int) (a1_2 : Int) (a1_3 : Int) (a1_4 : Int) (a1_5 : Int) (a1_6 : Int) (a1_7 : Bool) (a2_0 : Int) (a2_1 : Int) (a2_2 : Int) (a2_3 : Int) (a2_4 : Int) (a2_5 : Int) (a3 : Int) (a4 : Bool) : Option (Int × Int × Int × Int × Int × Int × Int × Bool × Int) := (cycle_Asks.f a0 a1_0 a1_1 a1_2 a1_3 a1_4 a1_5 a1_6 a1_7).bind fun bt138 => (if bt138.2.2.2.2.2.2 = true then (if (!(bt138.1 == a2_0) || (!(bt138.2.1 == a2_1) || (!(bt138.2.2.1 == a2_2) || (!(bt138.2.2.2.1 == a2_3) || (!(bt138.2.2.2.2.1 == a2_4) || (!(bt138.2.2.2.2.2.1 == 0))))))) = true then (cycle_Hear.j0 k a3 a4 a2_5 true a1_0 a1_1 a1_2 a1_3 a1_4 a1_5 a1_6 a1_7) else (cycle_Hear.j0 k a3 a4 a2_5 (a2_5 == 0) a1_0 a1_1 a1_2 a1_3 a1_4 a1_5 a1_6 a1_7)) else (cycle_Hear.j0 k a3 a4 a2_5 true a1_0 a1_1 a1_2 a1_3 a1_4 a1_5 a1_6 a1_7))
theorem cycle_Hear.mono_l : ∀ k, (∀ y0 y1 y2 y3 y4 y5 y6 y7 y8 y9 y10 y11, LeO (cycle_Hear.j0 k y0 y1 y2 y3 y4 y5 y6 y7 y8 y9 y10 y11) (cycle_Hear.j0 (k + 1) y0 y1 y2 y3 y4 y5 y6 y7 y8 y9 y10 y11))
 | 0 => fun _ _ _ _ _ _ _ _ _ _ _ _ r h => by simp [cycle_Hear.j0] at h
 | k + 1 => by
  have ih0 := cycle_Hear.mono_l k
  ·intro y0 y1 y2 y3 y4 y5 y6 y7 y8 y9 y10 y11
   unfold cycle_Hear.j0
   repeat' first
   | (with_reducible exact ih0 _ _ _ _ _ _ _ _ _ _ _ _)
   | (with_reducible exact LeO.refl _)
   | (with_reducible exact LeO.none _)
   | (with_reducible refine LeO.ite ?_ ?_)
   | (with_reducible refine LeO.bind ?_ (fun _ => ?_))
   | exact ih0 _ _ _ _ _ _ _ _ _ _ _ _
   | exact LeO.none _
   | refine LeO.ite ?_ ?_
   | refine LeO.bind ?_ (fun _ => ?_)
theorem cycle_Hear.mono : ∀ a0 a1 a2 a3 a4 a5 a6 a7 a8 a9 a10 a11 a12 a13 a14 a15 a16 k, LeO (cycle_Hear.f k a0 a1 a2 a3 a4 a5 a6 a7 a8 a9 a10 a11 a12 a13 a14 a15 a16) (cycle_Hear.f (k + 1) a0 a1 a2 a3 a4 a5 a6 a7 a8 a9 a10 a11 a12 a13 a14 a15 a16) := by
 intro a0 a1 a2 a3 a4 a5 a6 a7 a8 a9 a10 a11 a12 a13 a14 a15 a16 k
 have ih0 := cycle_Hear.mono_l k
 unfold cycle_Hear.f
 repeat' first
   | (with_reducible exact ih0 _ _ _ _ _ _ _ _ _ _ _ _)
   | (with_reducible exact LeO.refl _)
   | (with_reducible exact LeO.none _)
   | (with_reducible refine LeO.ite ?_ ?_)
   | (with_reducible refine LeO.bind ?_ (fun _ => ?_))
   | exact ih0 _ _ _ _ _ _ _ _ _ _ _ _
   | exact LeO.none _
   | refine LeO.ite ?_ ?_
   | refine LeO.bind ?_ (fun _ => ?_)
set_option maxHeartbeats 40000000 in
set_option maxRecDepth 100000 in
theorem cycle_Hear.calls (k : Nat) (a0 : Int) (a1_0 : Int) (a1_1 : Int) (a1_2 : Int) (a1_3 : Int) (a1_4 : Int) (a1_5 : Int) (a1_6 : Int) (a1_7 : Bool) (a2_0 : Int) (a2_1 : Int) (a2_2 : Int) (a2_3 : Int) (a2_4 : Int) (a2_5 : Int) (a3 : Int) (a4 : Bool) (r1 : Int) (r2 : Int) (r3 : Int) (r4 : Int) (r5 : Int) (r6 : Int) (r7 : Int) (r8 : Bool) (r9 : Int) (w : World) (hrG0 : Kd.C (Kd.int .i64) w (some ⟨0, 0, none⟩) 3 gl0) (h : cycle_Hear.f k a0 a1_0 a1_1 a1_2 a1_3 a1_4 a1_5 a1_6 a1_7 a2_0 a2_1 a2_2 a2_3 a2_4 a2_5 a3 a4 = some (r1, r2, r3, r4, r5, r6, r7, r8, r9)) :
  Calls Tryd.prog 18 #[.int .i64 a0, .agg #[.int .i64 a1_0, .int .i64 a1_1, .int .u8 a1_2, .int .i64 a1_3, .int .i64 a1_4, .int .i64 a1_5, .int .i64 a1_6, .bool a1_7], .agg #[.int .u8 a2_0, .int .i64 a2_1, .int .i64 a2_2, .int .i64 a2_3, .int .i64 a2_4, .int .u8 a2_5], .int .i64 a3, .bool a4] w fun e w' => e = .returned (.tuple #[.agg #[.int .i64 r1, .int .i64 r2, .int .u8 r3, .int .i64 r4, .int .i64 r5, .int .i64 r6, .int .i64 r7, .bool r8], .int .i64 r9]) ∧ Below w.heap.size w w' := by
 have hu25 := Tryd.underlying25
 have hu28 := Tryd.underlying28
 have HRG0 := Aside0.mk hrG0
 clear hrG0
 have HB := Aside0.mk (Below.refl w.heap.size w)
 have H : ((cycle_Asks.f a0 a1_0 a1_1 a1_2 a1_3 a1_4 a1_5 a1_6 a1_7).bind fun bt138 => (if bt138.2.2.2.2.2.2 = true then (if (!(bt138.1 == a2_0) || (!(bt138.2.1 == a2_1) || (!(bt138.2.2.1 == a2_2) || (!(bt138.2.2.2.1 == a2_3) || (!(bt138.2.2.2.2.1 == a2_4) || (!(bt138.2.2.2.2.2.1 == 0))))))) = true then (cycle_Hear.j0 k a3 a4 a2_5 true a1_0 a1_1 a1_2 a1_3 a1_4 a1_5 a1_6 a1_7) else (cycle_Hear.j0 k a3 a4 a2_5 (a2_5 == 0) a1_0 a1_1 a1_2 a1_3 a1_4 a1_5 a1_6 a1_7)) else (cycle_Hear.j0 k a3 a4 a2_5 true a1_0 a1_1 a1_2 a1_3 a1_4 a1_5 a1_6 a1_7))) = some (r1, r2, r3, r4, r5, r6, r7, r8, r9) := h
 clear h
 replace H := Option.bind_eq_some_iff.mp H
 obtain ⟨⟨t138, t139, t140, t141, t142, t143, t144⟩, A60, H⟩ := H
 replace H : (if t144 = true then (if (!(t138 == a2_0) || (!(t139 == a2_1) || (!(t140 == a2_2) || (!(t141 == a2_3) || (!(t142 == a2_4) || (!(t143 == 0))))))) = true then (cycle_Hear.j0 k a3 a4 a2_5 true a1_0 a1_1 a1_2 a1_3 a1_4 a1_5 a1_6 a1_7) else (cycle_Hear.j0 k a3 a4 a2_5 (a2_5 == 0) a1_0 a1_1 a1_2 a1_3 a1_4 a1_5 a1_6 a1_7)) else (cycle_Hear.j0 k a3 a4 a2_5 true a1_0 a1_1 a1_2 a1_3 a1_4 a1_5 a1_6 a1_7)) = some (r1, r2, r3, r4, r5, r6, r7, r8, r9) := H
 have A6 := Aside0.mk A60
 clear A60
 have HC7 := Aside0.mk H
 clear H
 go_enter Tryd.func18, Tryd.ntmps18
 go_upto_region 4 with (first | ((with_reducible refine gate_dst (N := 6) rfl ?_); refine box_event ?hg (N := 6) ?hd (cs := #[.int .i64 a1_0, .int .i64 a1_1, .int .u8 a1_2, .int .i64 a1_3, .int .i64 a1_4, .int .i64 a1_5, .int .i64 a1_6, .bool a1_7]) (t := 25) ?hr ?_; (case hd => rfl); (case hg => rfl); (case hr => first | (go_simp; done) | (go_simp; rfl)); intro gb135 hg w8 hbox hb; have n0_ := Aside0.mk (below_step (by repeat (first | (with_reducible first | exact HB.out | apply kL | apply kM | apply kE) | exact HB.out)) hb); have n1_ := Aside0.mk (hbox); have n2_ := Aside0.mk ((by rw [hg]; exact (below_size (by repeat (first | (with_reducible first | exact HB.out | apply kL | apply kM | apply kE) | exact HB.out))) : w.heap.size ≤ gb135)); have n3_ := Aside0.mk ((by rw [hg]; exact (below_size (by repeat (first | (with_reducible first | exact HB.out | apply kL | apply kM | apply kE) | exact HB.out))) : w.heap.size ≤ gb135)); clear HB; have HB := n0_; have BK135 := n1_; have GW135 := n2_; have GE135 := n3_; clear n0_ n1_ n2_ n3_; clear hb hbox hg) | ((with_reducible refine gate_dst (N := 7) rfl ?_); refine box_event ?hg (N := 7) ?hd (cs := #[.int .u8 a2_0, .int .i64 a2_1, .int .i64 a2_2, .int .i64 a2_3, .int .i64 a2_4, .int .u8 a2_5]) (t := 28) ?hr ?_; (case hd => rfl); (case hg => rfl); (case hr => first | (go_simp; done) | (go_simp; rfl)); intro gb136 hg w9 hbox hb; have n0_ := Aside0.mk (blk_below (g := gb135) (o := .cells #[.int .i64 a1_0, .int .i64 a1_1, .int .u8 a1_2, .int .i64 a1_3, .int .i64 a1_4, .int .i64 a1_5, .int .i64 a1_6, .bool a1_7] 25 (0, 0)) (by (with_reducible repeat (first | refine kN ?_ _ | refine kD ?_ | refine kA ?_ _)); exact BK135.out) hb); have n1_ := Aside0.mk (below_step (by repeat (first | (with_reducible first | exact HB.out | apply kL | apply kM | apply kE | refine kS ?_ GE135.out) | exact HB.out)) hb); have n2_ := Aside0.mk (hbox); have n3_ := Aside0.mk ((by rw [hg]; exact (below_size (by repeat (first | (with_reducible first | exact HB.out | apply kL | apply kM | apply kE | refine kS ?_ GE135.out) | exact HB.out))) : w.heap.size ≤ gb136)); have n4_ := Aside0.mk ((by rw [hg]; exact (below_size (by repeat (first | (with_reducible first | exact HB.out | apply kL | apply kM | apply kE | refine kS ?_ GE135.out) | exact HB.out))) : w.heap.size ≤ gb136)); have n5_ := Aside0.mk ((by rw [hg]; exact Nat.ne_of_lt (blk_lt (g := gb135) (o := .cells #[.int .i64 a1_0, .int .i64 a1_1, .int .u8 a1_2, .int .i64 a1_3, .int .i64 a1_4, .int .i64 a1_5, .int .i64 a1_6, .bool a1_7] 25 (0, 0)) (by (with_reducible repeat (first | refine kN ?_ _ | refine kD ?_ | refine kA ?_ _)); exact BK135.out)) : gb135 ≠ gb136)); have n6_ := Aside0.mk ((by rw [hg]; exact Nat.ne_of_gt (blk_lt (g := gb135) (o := .cells #[.int .i64 a1_0, .int .i64 a1_1, .int .u8 a1_2, .int .i64 a1_3, .int .i64 a1_4, .int .i64 a1_5, .int .i64 a1_6, .bool a1_7] 25 (0, 0)) (by (with_reducible repeat (first | refine kN ?_ _ | refine kD ?_ | refine kA ?_ _)); exact BK135.out)) : gb136 ≠ gb135)); clear BK135; clear HB; have BK135 := n0_; have HB := n1_; have BK136 := n2_; have GW136 := n3_; have GE136 := n4_; have NB135_136 := n5_; have NB136_135 := n6_; clear n0_ n1_ n2_ n3_ n4_ n5_ n6_; clear hb hbox hg) | ((with_reducible refine gate_dst (N := 10) rfl ?_); refine box_event ?hg (N := 10) ?hd (cs := #[.int .i64 0, .int .i64 0, .int .u8 0, .int .i64 0, .int .i64 0, .int .i64 0, .int .i64 0, .bool false]) (t := 25) ?hr ?_; (case hd => rfl); (case hg => rfl); (case hr => first | (go_simp; done) | (go_simp; rfl)); intro gb137 hg w10 hbox hb; have n0_ := Aside0.mk (blk_below (g := gb135) (o := .cells #[.int .i64 a1_0, .int .i64 a1_1, .int .u8 a1_2, .int .i64 a1_3, .int .i64 a1_4, .int .i64 a1_5, .int .i64 a1_6, .bool a1_7] 25 (0, 0)) (by (with_reducible repeat (first | refine kN ?_ _ | refine kD ?_ | refine kA ?_ _)); exact BK135.out) hb); have n1_ := Aside0.mk (blk_below (g := gb136) (o := .cells #[.int .u8 a2_0, .int .i64 a2_1, .int .i64 a2_2, .int .i64 a2_3, .int .i64 a2_4, .int .u8 a2_5] 28 (0, 0)) (by (with_reducible repeat (first | refine kN ?_ _ | refine kD ?_ | refine kA ?_ _)); exact BK136.out) hb); have n2_ := Aside0.mk (below_step (by repeat (first | (with_reducible first | exact HB.out | apply kL | apply kM | apply kE | refine kS ?_ GE135.out | refine kS ?_ GE136.out) | exact HB.out)) hb); have n3_ := Aside0.mk (hbox); have n4_ := Aside0.mk ((by rw [hg]; exact (below_size (by repeat (first | (with_reducible first | exact HB.out | apply kL | apply kM | apply kE | refine kS ?_ GE135.out | refine kS ?_ GE136.out) | exact HB.out))) : w.heap.size ≤ gb137)); have n5_ := Aside0.mk ((by rw [hg]; exact (below_size (by repeat (first | (with_reducible first | exact HB.out | apply kL | apply kM | apply kE | refine kS ?_ GE135.out | refine kS ?_ GE136.out) | exact HB.out))) : w.heap.size ≤ gb137)); have n6_ := Aside0.mk ((by rw [hg]; exact Nat.ne_of_lt (blk_lt (g := gb135) (o := .cells #[.int .i64 a1_0, .int .i64 a1_1, .int .u8 a1_2, .int .i64 a1_3, .int .i64 a1_4, .int .i64 a1_5, .int .i64 a1_6, .bool a1_7] 25 (0, 0)) (by (with_reducible repeat (first | refine kN ?_ _ | refine kD ?_ | refine kA ?_ _)); exact BK135.out)) : gb135 ≠ gb137)); have n7_ := Aside0.mk ((by rw [hg]; exact Nat.ne_of_gt (blk_lt (g := gb135) (o := .cells #[.int .i64 a1_0, .int .i64 a1_1, .int .u8 a1_2, .int .i64 a1_3, .int .i64 a1_4, .int .i64 a1_5, .int .i64 a1_6, .bool a1_7] 25 (0, 0)) (by (with_reducible repeat (first | refine kN ?_ _ | refine kD ?_ | refine kA ?_ _)); exact BK135.out)) : gb137 ≠ gb135)); have n8_ := Aside0.mk ((by rw [hg]; exact Nat.ne_of_lt (blk_lt (g := gb136) (o := .cells #[.int .u8 a2_0, .int .i64 a2_1, .int .i64 a2_2, .int .i64 a2_3, .int .i64 a2_4, .int .u8 a2_5] 28 (0, 0)) (by (with_reducible repeat (first | refine kN ?_ _ | refine kD ?_ | refine kA ?_ _)); exact BK136.out)) : gb136 ≠ gb137)); have n9_ := Aside0.mk ((by rw [hg]; exact Nat.ne_of_gt (blk_lt (g := gb136) (o := .cells #[.int .u8 a2_0, .int .i64 a2_1, .int .i64 a2_2, .int .i64 a2_3, .int .i64 a2_4, .int .u8 a2_5] 28 (0, 0)) (by (with_reducible repeat (first | refine kN ?_ _ | refine kD ?_ | refine kA ?_ _)); exact BK136.out)) : gb137 ≠ gb136)); clear BK135; clear BK136; clear HB; have BK135 := n0_; have BK136 := n1_; have HB := n2_; have BK137 := n3_; have GW137 := n4_; have GE137 := n5_; have NB135_137 := n6_; have NB137_135 := n7_; have NB136_137 := n8_; have NB137_136 := n9_; clear n0_ n1_ n2_ n3_ n4_ n5_ n6_ n7_ n8_ n9_; clear hb hbox hg; have hnb11 := NB136_135.out; have hnc11 := NB135_136.out; have hnb12 := NB136_137.out; have hnc12 := NB137_136.out; obtain ⟨hcz13_0, hcz13_1, hcz13_2, hcz13_3, hcz13_4, hcz13_5, hfz13_0, hfz13_1, hfz13_2, hfz13_3, hfz13_4, hfz13_5⟩ := bxc6 BK136.out; have hnb14 := NB135_137.out; have hnc14 := NB137_135.out; obtain ⟨hcz15_0, hcz15_1, hcz15_2, hcz15_3, hcz15_4, hcz15_5, hcz15_6, hcz15_7, hfz15_0, hfz15_1, hfz15_2, hfz15_3, hfz15_4, hfz15_5, hfz15_6, hfz15_7⟩ := bxc8 BK135.out) | ((with_reducible refine gate_callee (f := 13) rfl ?_); refine goesL_ (some 21) rfl rfl Tryd.func13 (by kernel_rfl) rfl #[.int .i64 a0, .agg #[.int .i64 a1_0, .int .i64 a1_1, .int .u8 a1_2, .int .i64 a1_3, .int .i64 a1_4, .int .i64 a1_5, .int .i64 a1_6, .bool a1_7]] rfl (by (try simp only [List.map_toArray, List.map_cons, List.map_nil]); first | done | rfl | (simp only [List.length_drop, List.length_take]; rfl)) ?_; (with_reducible refine (cycle_Asks.calls a0 a1_0 a1_1 a1_2 a1_3 a1_4 a1_5 a1_6 a1_7 t138 t139 t140 t141 t142 t143 t144 _ A6.out).mono ?_); rintro e w16 ⟨rfl, hb⟩; refine ⟨_, rfl, ?_⟩; have n0_ := Aside0.mk (blk_below (g := gb135) (o := .cells #[.int .i64 a1_0, .int .i64 a1_1, .int .u8 a1_2, .int .i64 a1_3, .int .i64 a1_4, .int .i64 a1_5, .int .i64 a1_6, .bool a1_7] 25 (0, 0)) (by (with_reducible repeat (first | refine kN ?_ _ | refine kD ?_ | refine kA ?_ _ | refine kR ?_ NB135_136.out _)); (with_reducible repeat (first | refine kN ?_ _ | refine kD ?_ | refine kA ?_ _)); exact BK135.out) hb); have n1_ := Aside0.mk (blk_below (g := gb136) (o := .cells #[.int .u8 a2_0, .int .i64 a2_1, .int .i64 a2_2, .int .i64 a2_3, .int .i64 a2_4, .int .u8 0] 28 (0, 0)) (by (with_reducible repeat (first | refine kN ?_ _ | refine kD ?_ | refine kA ?_ _)); refine bxp6_5 (o := .int .u8 a2_5) ?_; (with_reducible repeat (first | refine kN ?_ _ | refine kD ?_ | refine kA ?_ _)); exact BK136.out) hb); have n2_ := Aside0.mk (blk_below (g := gb137) (o := .cells #[.int .i64 0, .int .i64 0, .int .u8 0, .int .i64 0, .int .i64 0, .int .i64 0, .int .i64 0, .bool false] 25 (0, 0)) (by (with_reducible repeat (first | refine kN ?_ _ | refine kD ?_ | refine kA ?_ _ | refine kR ?_ NB137_136.out _)); (with_reducible repeat (first | refine kN ?_ _ | refine kD ?_ | refine kA ?_ _)); exact BK137.out) hb); have n3_ := Aside0.mk (below_step (by repeat (first | (with_reducible first | exact HB.out | apply kL | apply kM | apply kE | refine kS ?_ GE135.out | refine kS ?_ GE136.out | refine kS ?_ GE137.out) | exact HB.out)) hb); clear BK135; clear BK136; clear BK137; clear HB; have BK135 := n0_; have BK136 := n1_; have BK137 := n2_; have HB := n3_; clear n0_ n1_ n2_ n3_; (try clear hb); (try clear hb2); (try clear hk); (try clear hi)) | ((with_reducible refine gate_dst (N := 13) rfl ?_); refine box_event ?hg (N := 13) ?hd (cs := #[.int .u8 0, .int .i64 0, .int .i64 0, .int .i64 0, .int .i64 0, .int .u8 0]) (t := 28) ?hr ?_; (case hd => rfl); (case hg => rfl); (case hr => first | (go_simp; done) | (go_simp; rfl)); intro gb145 hg w17 hbox hb; have n0_ := Aside0.mk (blk_below (g := gb135) (o := .cells #[.int .i64 a1_0, .int .i64 a1_1, .int .u8 a1_2, .int .i64 a1_3, .int .i64 a1_4, .int .i64 a1_5, .int .i64 a1_6, .bool a1_7] 25 (0, 0)) (by (with_reducible repeat (first | refine kN ?_ _ | refine kD ?_ | refine kA ?_ _)); exact BK135.out) hb); have n1_ := Aside0.mk (blk_below (g := gb136) (o := .cells #[.int .u8 a2_0, .int .i64 a2_1, .int .i64 a2_2, .int .i64 a2_3, .int .i64 a2_4, .int .u8 0] 28 (0, 0)) (by (with_reducible repeat (first | refine kN ?_ _ | refine kD ?_ | refine kA ?_ _)); exact BK136.out) hb); have n2_ := Aside0.mk (blk_below (g := gb137) (o := .cells #[.int .i64 0, .int .i64 0, .int .u8 0, .int .i64 0, .int .i64 0, .int .i64 0, .int .i64 0, .bool false] 25 (0, 0)) (by (with_reducible repeat (first | refine kN ?_ _ | refine kD ?_ | refine kA ?_ _)); exact BK137.out) hb); have n3_ := Aside0.mk (below_step (by repeat (first | (with_reducible first | exact HB.out | apply kL | apply kM | apply kE | refine kS ?_ GE135.out | refine kS ?_ GE136.out | refine kS ?_ GE137.out) | exact HB.out)) hb); have n4_ := Aside0.mk (hbox); have n5_ := Aside0.mk ((by rw [hg]; exact (below_size (by repeat (first | (with_reducible first | exact HB.out | apply kL | apply kM | apply kE | refine kS ?_ GE135.out | refine kS ?_ GE136.out | refine kS ?_ GE137.out) | exact HB.out))) : w.heap.size ≤ gb145)); have n6_ := Aside0.mk ((by rw [hg]; exact (below_size (by repeat (first | (with_reducible first | exact HB.out | apply kL | apply kM | apply kE | refine kS ?_ GE135.out | refine kS ?_ GE136.out | refine kS ?_ GE137.out) | exact HB.out))) : w.heap.size ≤ gb145)); have n7_ := Aside0.mk ((by rw [hg]; exact Nat.ne_of_lt (blk_lt (g := gb135) (o := .cells #[.int .i64 a1_0, .int .i64 a1_1, .int .u8 a1_2, .int .i64 a1_3, .int .i64 a1_4, .int .i64 a1_5, .int .i64 a1_6, .bool a1_7] 25 (0, 0)) (by (with_reducible repeat (first | refine kN ?_ _ | refine kD ?_ | refine kA ?_ _)); exact BK135.out)) : gb135 ≠ gb145)); have n8_ := Aside0.mk ((by rw [hg]; exact Nat.ne_of_gt (blk_lt (g := gb135) (o := .cells #[.int .i64 a1_0, .int .i64 a1_1, .int .u8 a1_2, .int .i64 a1_3, .int .i64 a1_4, .int .i64 a1_5, .int .i64 a1_6, .bool a1_7] 25 (0, 0)) (by (with_reducible repeat (first | refine kN ?_ _ | refine kD ?_ | refine kA ?_ _)); exact BK135.out)) : gb145 ≠ gb135)); have n9_ := Aside0.mk ((by rw [hg]; exact Nat.ne_of_lt (blk_lt (g := gb136) (o := .cells #[.int .u8 a2_0, .int .i64 a2_1, .int .i64 a2_2, .int .i64 a2_3, .int .i64 a2_4, .int .u8 0] 28 (0, 0)) (by (with_reducible repeat (first | refine kN ?_ _ | refine kD ?_ | refine kA ?_ _)); exact BK136.out)) : gb136 ≠ gb145)); have n10_ := Aside0.mk ((by rw [hg]; exact Nat.ne_of_gt (blk_lt (g := gb136) (o := .cells #[.int .u8 a2_0, .int .i64 a2_1, .int .i64 a2_2, .int .i64 a2_3, .int .i64 a2_4, .int .u8 0] 28 (0, 0)) (by (with_reducible repeat (first | refine kN ?_ _ | refine kD ?_ | refine kA ?_ _)); exact BK136.out)) : gb145 ≠ gb136)); have n11_ := Aside0.mk ((by rw [hg]; exact Nat.ne_of_lt (blk_lt (g := gb137) (o := .cells #[.int .i64 0, .int .i64 0, .int .u8 0, .int .i64 0, .int .i64 0, .int .i64 0, .int .i64 0, .bool false] 25 (0, 0)) (by (with_reducible repeat (first | refine kN ?_ _ | refine kD ?_ | refine kA ?_ _)); exact BK137.out)) : gb137 ≠ gb145)); have n12_ := Aside0.mk ((by rw [hg]; exact Nat.ne_of_gt (blk_lt (g := gb137) (o := .cells #[.int .i64 0, .int .i64 0, .int .u8 0, .int .i64 0, .int .i64 0, .int .i64 0, .int .i64 0, .bool false] 25 (0, 0)) (by (with_reducible repeat (first | refine kN ?_ _ | refine kD ?_ | refine kA ?_ _)); exact BK137.out)) : gb145 ≠ gb137)); clear BK135; clear BK136; clear BK137; clear HB; have BK135 := n0_; have BK136 := n1_; have BK137 := n2_; have HB := n3_; have BK145 := n4_; have GW145 := n5_; have GE145 := n6_; have NB135_145 := n7_; have NB145_135 := n8_; have NB136_145 := n9_; have NB145_136 := n10_; have NB137_145 := n11_; have NB145_137 := n12_; clear n0_ n1_ n2_ n3_ n4_ n5_ n6_ n7_ n8_ n9_ n10_ n11_ n12_; clear hb hbox hg; have hnb18 := NB145_135.out; have hnc18 := NB135_145.out; have hnb19 := NB145_136.out; have hnc19 := NB136_145.out; have hnb20 := NB145_137.out; have hnc20 := NB137_145.out; obtain ⟨hcz21_0, hcz21_1, hcz21_2, hcz21_3, hcz21_4, hcz21_5, hfz21_0, hfz21_1, hfz21_2, hfz21_3, hfz21_4, hfz21_5⟩ := bxc6 BK145.out))
 (try simp only [Act.put, List.setIfInBounds_toArray, List.set_cons_zero, List.set_cons_succ])
 go_cut [34] (fun v34 wc => ∃ (kq : Nat) (x34_6 : Bool), v34 = .bool x34_6 ∧ Aside0 (cycle_Hear.j0 kq a3 a4 a2_5 x34_6 a1_0 a1_1 a1_2 a1_3 a1_4 a1_5 a1_6 a1_7 = some (r1, r2, r3, r4, r5, r6, r7, r8, r9)) ∧ Aside0 (kq ≤ k) ∧ Aside0 (wc.heap[gb135]? = some (.cells #[.int .i64 a1_0, .int .i64 a1_1, .int .u8 a1_2, .int .i64 a1_3, .int .i64 a1_4, .int .i64 a1_5, .int .i64 a1_6, .bool a1_7] 25 (0, 0))) ∧ Aside0 (wc.heap[gb136]? = some (.cells #[.int .u8 a2_0, .int .i64 a2_1, .int .i64 a2_2, .int .i64 a2_3, .int .i64 a2_4, .int .u8 0] 28 (0, 0))) ∧ Aside0 (wc.heap[gb137]? = some (.cells #[.int .i64 0, .int .i64 0, .int .u8 0, .int .i64 0, .int .i64 0, .int .i64 0, .int .i64 0, .bool false] 25 (0, 0))) ∧ Aside0 (wc.heap[gb145]? = some (.cells #[.int .u8 t138, .int .i64 t139, .int .i64 t140, .int .i64 t141, .int .i64 t142, .int .u8 t143] 28 (0, 0))) ∧ Aside0 (Below w.heap.size w wc))
 case first =>
  have H := HC7.out
  clear HC7
  by_cases c22 : t144 = true
  ·subst c22
   have H1 : (if (!(t138 == a2_0) || (!(t139 == a2_1) || (!(t140 == a2_2) || (!(t141 == a2_3) || (!(t142 == a2_4) || (!(t143 == 0))))))) = true then (cycle_Hear.j0 k a3 a4 a2_5 true a1_0 a1_1 a1_2 a1_3 a1_4 a1_5 a1_6 a1_7) else (cycle_Hear.j0 k a3 a4 a2_5 (a2_5 == 0) a1_0 a1_1 a1_2 a1_3 a1_4 a1_5 a1_6 a1_7)) = some (r1, r2, r3, r4, r5, r6, r7, r8, r9) := by rw [if_pos rfl] at H; try exact H
   clear H
   have H := H1
   clear H1
   by_cases c23 : (!(t138 == a2_0) || (!(t139 == a2_1) || (!(t140 == a2_2) || (!(t141 == a2_3) || (!(t142 == a2_4) || (!(t143 == 0))))))) = true
   ·rw [if_pos c23] at H
    have c23b0 : (!(t138 == a2_0) || (!(t139 == a2_1) || (!(t140 == a2_2) || (!(t141 == a2_3) || (!(t142 == a2_4) || (!(t143 == 0))))))) = true := c23
    clear c23
    (first | (generalize hg_ : (!(t138 == a2_0) || (!(t139 == a2_1) || (!(t140 == a2_2) || (!(t141 == a2_3) || (!(t142 == a2_4) || (!(t143 == 0))))))) = bg_ at *; subst c23b0; have c23b0 := hg_; clear hg_) | rw [c23b0] | (simp only [i64_w, i32_w]; rw [c23b0]) | skip)
    have H' := Aside0.mk H
    clear H
    have hnb24 := NB145_135.out
    have hnc24 := NB135_145.out
    have hnb25 := NB145_136.out
    have hnc25 := NB136_145.out
    have hnb26 := NB145_137.out
    have hnc26 := NB137_145.out
    obtain ⟨hcz27_0, hcz27_1, hcz27_2, hcz27_3, hcz27_4, hcz27_5, hfz27_0, hfz27_1, hfz27_2, hfz27_3, hfz27_4, hfz27_5⟩ := bxc6 BK145.out
    have hnb28 := NB136_135.out
    have hnc28 := NB135_136.out
    have hnb29 := NB136_137.out
    have hnc29 := NB137_136.out
    obtain ⟨hcz30_0, hcz30_1, hcz30_2, hcz30_3, hcz30_4, hcz30_5, hfz30_0, hfz30_1, hfz30_2, hfz30_3, hfz30_4, hfz30_5⟩ := bxc6 BK136.out
    go_wp2
    go_meet
    case rel => exact ⟨_, (true), (by first | rfl | (simp; done) | (simp [*]; done)), (by first | (with_reducible exact H') | (simp only [*]; with_reducible exact H') | exact H'), ⟨by first | omega | exact Nat.le_refl _⟩, ⟨by (with_reducible repeat (first | refine kN ?_ _ | refine kD ?_ | refine kA ?_ _ | refine kR ?_ NB135_145.out _)); (with_reducible repeat (first | refine kN ?_ _ | refine kD ?_ | refine kA ?_ _)); exact BK135.out⟩, ⟨by (with_reducible repeat (first | refine kN ?_ _ | refine kD ?_ | refine kA ?_ _ | refine kR ?_ NB136_145.out _)); (with_reducible repeat (first | refine kN ?_ _ | refine kD ?_ | refine kA ?_ _)); exact BK136.out⟩, ⟨by (with_reducible repeat (first | refine kN ?_ _ | refine kD ?_ | refine kA ?_ _ | refine kR ?_ NB137_145.out _)); (with_reducible repeat (first | refine kN ?_ _ | refine kD ?_ | refine kA ?_ _)); exact BK137.out⟩, ⟨by (with_reducible repeat (first | refine kN ?_ _ | refine kD ?_ | refine kA ?_ _)); refine bxw6 (.int .u8 0) (.int .i64 0) (.int .i64 0) (.int .i64 0) (.int .i64 0) (.int .u8 0) ?_; (with_reducible repeat (first | refine kN ?_ _ | refine kD ?_ | refine kA ?_ _)); exact BK145.out⟩, ⟨by repeat (first | (with_reducible first | exact HB.out | apply kL | apply kM | apply kE | refine kS ?_ GE135.out | refine kS ?_ GE136.out | refine kS ?_ GE137.out | refine kS ?_ GE145.out) | exact HB.out)⟩⟩
   ·rw [if_neg c23] at H
    have c23b0 : (!(t138 == a2_0) || (!(t139 == a2_1) || (!(t140 == a2_2) || (!(t141 == a2_3) || (!(t142 == a2_4) || (!(t143 == 0))))))) = false := by simpa using c23
    clear c23
    (first | (generalize hg_ : (!(t138 == a2_0) || (!(t139 == a2_1) || (!(t140 == a2_2) || (!(t141 == a2_3) || (!(t142 == a2_4) || (!(t143 == 0))))))) = bg_ at *; subst c23b0; have c23b0 := hg_; clear hg_) | rw [c23b0] | (simp only [i64_w, i32_w]; rw [c23b0]) | skip)
    have H' := Aside0.mk H
    clear H
    have hnb31 := NB145_135.out
    have hnc31 := NB135_145.out
    have hnb32 := NB145_136.out
    have hnc32 := NB136_145.out
    have hnb33 := NB145_137.out
    have hnc33 := NB137_145.out
    obtain ⟨hcz34_0, hcz34_1, hcz34_2, hcz34_3, hcz34_4, hcz34_5, hfz34_0, hfz34_1, hfz34_2, hfz34_3, hfz34_4, hfz34_5⟩ := bxc6 BK145.out
    have hnb35 := NB136_135.out
    have hnc35 := NB135_136.out
    have hnb36 := NB136_137.out
    have hnc36 := NB137_136.out
    obtain ⟨hcz37_0, hcz37_1, hcz37_2, hcz37_3, hcz37_4, hcz37_5, hfz37_0, hfz37_1, hfz37_2, hfz37_3, hfz37_4, hfz37_5⟩ := bxc6 BK136.out
    go_wp2
    go_meet
    case rel => exact ⟨_, ((a2_5 == 0)), (by first | rfl | (simp; done) | (simp [*]; done)), (by first | (with_reducible exact H') | (simp only [*]; with_reducible exact H') | exact H'), ⟨by first | omega | exact Nat.le_refl _⟩, ⟨by (with_reducible repeat (first | refine kN ?_ _ | refine kD ?_ | refine kA ?_ _ | refine kR ?_ NB135_145.out _)); (with_reducible repeat (first | refine kN ?_ _ | refine kD ?_ | refine kA ?_ _)); exact BK135.out⟩, ⟨by (with_reducible repeat (first | refine kN ?_ _ | refine kD ?_ | refine kA ?_ _ | refine kR ?_ NB136_145.out _)); (with_reducible repeat (first | refine kN ?_ _ | refine kD ?_ | refine kA ?_ _)); exact BK136.out⟩, ⟨by (with_reducible repeat (first | refine kN ?_ _ | refine kD ?_ | refine kA ?_ _ | refine kR ?_ NB137_145.out _)); (with_reducible repeat (first | refine kN ?_ _ | refine kD ?_ | refine kA ?_ _)); exact BK137.out⟩, ⟨by (with_reducible repeat (first | refine kN ?_ _ | refine kD ?_ | refine kA ?_ _)); refine bxw6 (.int .u8 0) (.int .i64 0) (.int .i64 0) (.int .i64 0) (.int .i64 0) (.int .u8 0) ?_; (with_reducible repeat (first | refine kN ?_ _ | refine kD ?_ | refine kA ?_ _)); exact BK145.out⟩, ⟨by repeat (first | (with_reducible first | exact HB.out | apply kL | apply kM | apply kE | refine kS ?_ GE135.out | refine kS ?_ GE136.out | refine kS ?_ GE137.out | refine kS ?_ GE145.out) | exact HB.out)⟩⟩
  ·replace c22 := Bool.eq_false_iff.mpr c22
   subst c22
   have H1 : (cycle_Hear.j0 k a3 a4 a2_5 true a1_0 a1_1 a1_2 a1_3 a1_4 a1_5 a1_6 a1_7) = some (r1, r2, r3, r4, r5, r6, r7, r8, r9) := by rw [if_neg (show ¬ (false = true) by decide)] at H; try exact H
   clear H
   have H := H1
   clear H1
   have H' := Aside0.mk H
   clear H
   go_wp2
   go_meet
   case rel => exact ⟨_, (true), (by first | rfl | (simp; done) | (simp [*]; done)), (by first | (with_reducible exact H') | (simp only [*]; with_reducible exact H') | exact H'), ⟨by first | omega | exact Nat.le_refl _⟩, ⟨by (with_reducible repeat (first | refine kN ?_ _ | refine kD ?_ | refine kA ?_ _ | refine kR ?_ NB135_145.out _)); (with_reducible repeat (first | refine kN ?_ _ | refine kD ?_ | refine kA ?_ _)); exact BK135.out⟩, ⟨by (with_reducible repeat (first | refine kN ?_ _ | refine kD ?_ | refine kA ?_ _ | refine kR ?_ NB136_145.out _)); (with_reducible repeat (first | refine kN ?_ _ | refine kD ?_ | refine kA ?_ _)); exact BK136.out⟩, ⟨by (with_reducible repeat (first | refine kN ?_ _ | refine kD ?_ | refine kA ?_ _ | refine kR ?_ NB137_145.out _)); (with_reducible repeat (first | refine kN ?_ _ | refine kD ?_ | refine kA ?_ _)); exact BK137.out⟩, ⟨by (with_reducible repeat (first | refine kN ?_ _ | refine kD ?_ | refine kA ?_ _)); refine bxw6 (.int .u8 0) (.int .i64 0) (.int .i64 0) (.int .i64 0) (.int .i64 0) (.int .u8 0) ?_; (with_reducible repeat (first | refine kN ?_ _ | refine kD ?_ | refine kA ?_ _)); exact BK145.out⟩, ⟨by repeat (first | (with_reducible first | exact HB.out | apply kL | apply kM | apply kE | refine kS ?_ GE135.out | refine kS ?_ GE136.out | refine kS ?_ GE137.out | refine kS ?_ GE145.out) | exact HB.out)⟩⟩
 case rest =>
  clear HC7
  try clear c1
  try clear c2
  try clear p2
  try clear c3
  try clear c6
  try clear p6
  try clear c8
  try clear c11
  try clear c12
  try clear c13
  try clear c14
  try clear c18
  try clear c19
  try clear c20
  try clear c22
  try clear c23
  try clear c23b0
  try clear c24
  try clear c25
  try clear c26
  try clear c28
  try clear c29
  try clear c31
  try clear c32
  try clear c33
  try clear c35
  try clear c36
  try clear hcz13_0
  try clear hcz13_1
  try clear hcz13_2
  try clear hcz13_3
  try clear hcz13_4
  try clear hcz13_5
  try clear hcz15_0
  try clear hcz15_1
  try clear hcz15_2
  try clear hcz15_3
  try clear hcz15_4
  try clear hcz15_5
  try clear hcz15_6
  try clear hcz15_7
  try clear hcz21_0
  try clear hcz21_1
  try clear hcz21_2
  try clear hcz21_3
  try clear hcz21_4
  try clear hcz21_5
  try clear hcz27_0
  try clear hcz27_1
  try clear hcz27_2
  try clear hcz27_3
  try clear hcz27_4
  try clear hcz27_5
  try clear hcz30_0
  try clear hcz30_1
  try clear hcz30_2
  try clear hcz30_3
  try clear hcz30_4
  try clear hcz30_5
  try clear hcz34_0
  try clear hcz34_1
  try clear hcz34_2
  try clear hcz34_3
  try clear hcz34_4
  try clear hcz34_5
  try clear hcz37_0
  try clear hcz37_1
  try clear hcz37_2
  try clear hcz37_3
  try clear hcz37_4
  try clear hcz37_5
  try clear hfz13_0
  try clear hfz13_1
  try clear hfz13_2
  try clear hfz13_3
  try clear hfz13_4
  try clear hfz13_5
  try clear hfz15_0
  try clear hfz15_1
  try clear hfz15_2
  try clear hfz15_3
  try clear hfz15_4
  try clear hfz15_5
  try clear hfz15_6
  try clear hfz15_7
  try clear hfz21_0
  try clear hfz21_1
  try clear hfz21_2
  try clear hfz21_3
  try clear hfz21_4
  try clear hfz21_5
  try clear hfz27_0
  try clear hfz27_1
  try clear hfz27_2
  try clear hfz27_3
  try clear hfz27_4
  try clear hfz27_5
  try clear hfz30_0
  try clear hfz30_1
  try clear hfz30_2
  try clear hfz30_3
  try clear hfz30_4
  try clear hfz30_5
  try clear hfz34_0
  try clear hfz34_1
  try clear hfz34_2
  try clear hfz34_3
  try clear hfz34_4
  try clear hfz34_5
  try clear hfz37_0
  try clear hfz37_1
  try clear hfz37_2
  try clear hfz37_3
  try clear hfz37_4
  try clear hfz37_5
  obtain ⟨kq, x34_6, rfl, HA, HJ6, BK135, BK136, BK137, BK145, HB⟩ := hcut
  cases kq with
  | zero => exact absurd HA.out (by simp [cycle_Hear.j0])
  | succ kj6 =>
   have H := HA.out
   clear HA
   simp only [cycle_Hear.j0] at H
   by_cases c38 : x34_6 = true
   ·subst c38
    have H1 : (some (a1_0, a1_1, a1_2, a1_3, a1_4, a1_5, a1_6, a1_7, 10)) = some (r1, r2, r3, r4, r5, r6, r7, r8, r9) := by rw [if_pos rfl] at H; try exact H
    clear H
    have H := H1
    clear H1
    simp only [Option.some.injEq, Prod.mk.injEq] at H
    obtain ⟨rfl, rfl, rfl, rfl, rfl, rfl, rfl, rfl, rfl⟩ := H
    have hnb39 := NB135_136.out
    have hnc39 := NB136_135.out
    have hnb40 := NB135_137.out
    have hnc40 := NB137_135.out
    have hnb41 := NB135_145.out
    have hnc41 := NB145_135.out
    obtain ⟨hcz42_0, hcz42_1, hcz42_2, hcz42_3, hcz42_4, hcz42_5, hcz42_6, hcz42_7, hfz42_0, hfz42_1, hfz42_2, hfz42_3, hfz42_4, hfz42_5, hfz42_6, hfz42_7⟩ := bxc8 BK135.out
    have hnb43 := NB137_136.out
    have hnc43 := NB136_137.out
    have hnb44 := NB137_145.out
    have hnc44 := NB145_137.out
    obtain ⟨hcz45_0, hcz45_1, hcz45_2, hcz45_3, hcz45_4, hcz45_5, hcz45_6, hcz45_7, hfz45_0, hfz45_1, hfz45_2, hfz45_3, hfz45_4, hfz45_5, hfz45_6, hfz45_7⟩ := bxc8 BK137.out
    go_wp2
    refine bodyPost_ret (results_ct rfl _ _ gb137 25 #[.int .i64 a1_0, .int .i64 a1_1, .int .u8 a1_2, .int .i64 a1_3, .int .i64 a1_4, .int .i64 a1_5, .int .i64 a1_6, .bool a1_7] (0, 0) _ rfl (by (with_reducible repeat (first | refine kN ?_ _ | refine kD ?_ | refine kA ?_ _)); refine bxw8 (.int .i64 0) (.int .i64 0) (.int .u8 0) (.int .i64 0) (.int .i64 0) (.int .i64 0) (.int .i64 0) (.bool false) ?_; (with_reducible repeat (first | refine kN ?_ _ | refine kD ?_ | refine kA ?_ _)); exact BK137.out) Tryd.underlying25 rfl (by kernel_rfl)) rfl ?_
    exact ⟨by first | rfl | (simp [errW_none, errW_some] <;> rfl) | (simp [*, errW_none, errW_some] <;> rfl), by repeat (first | (with_reducible first | exact HB.out | apply kL | apply kM | apply kE | refine kS ?_ GE135.out | refine kS ?_ GE136.out | refine kS ?_ GE137.out | refine kS ?_ GE145.out) | exact HB.out)⟩
   ·replace c38 := Bool.eq_false_iff.mpr c38
    subst c38
    have H1 : (if a1_2 = 1 then ((cycle_charged.f a1_0 a1_1 a1_2 a1_3 a1_4 a1_5 a1_6 a1_7 a2_5 a3 a4).bind fun bt146 => (some (bt146.1, bt146.2.1, bt146.2.2.1, bt146.2.2.2.1, bt146.2.2.2.2.1, bt146.2.2.2.2.2.1, bt146.2.2.2.2.2.2.1, bt146.2.2.2.2.2.2.2, 0))) else (if a1_2 = 3 then (if a2_5 = 1 then (if a4 = true then (some (a1_0, a1_1, 5, a1_3, a1_4, a1_5, a1_6, a1_7, 0)) else (some (a1_0, a1_1, 4, a1_3, a1_4, a1_5, a1_6, a1_7, 0))) else ((cycle_back.f a1_0 a1_1 a1_2 a1_3 a1_4 a1_5 a1_6 a1_7).bind fun bt154 => (some (bt154.1, bt154.2.1, bt154.2.2.1, bt154.2.2.2.1, bt154.2.2.2.2.1, bt154.2.2.2.2.2.1, bt154.2.2.2.2.2.2.1, bt154.2.2.2.2.2.2.2, 0)))) else (if a1_2 = 4 then (if a2_5 = 1 then (some (a1_0, a1_1, 7, a1_3, a1_4, a1_5, a1_6, a1_7, 0)) else (some (a1_0, a1_1, 5, a1_3, a1_4, a1_5, a1_6, a1_7, 0))) else (if a1_2 = 5 then ((cycle_back.f a1_0 a1_1 a1_2 a1_3 a1_4 a1_5 a1_6 a1_7).bind fun bt162 => (some (bt162.1, bt162.2.1, bt162.2.2.1, bt162.2.2.2.1, bt162.2.2.2.2.1, bt162.2.2.2.2.2.1, bt162.2.2.2.2.2.2.1, bt162.2.2.2.2.2.2.2, 0))) else (some (a1_0, a1_1, 9, a1_3, a1_4, a1_5, a1_6, a1_7, 0)))))) = some (r1, r2, r3, r4, r5, r6, r7, r8, r9) := by rw [if_neg (show ¬ (false = true) by decide)] at H; try exact H
    clear H
    have H := H1
    clear H1
    by_cases c46 : a1_2 = 1
    ·rw [if_pos c46] at H
     have c46b0 : (a1_2 == 1) = true := beq_iff_eq.mpr c46
     have c46b1 : (a1_2 != 1) = false := bne_eq_false_iff_eq.mpr c46
     clear c46
     replace H := Option.bind_eq_some_iff.mp H
     obtain ⟨⟨t146, t147, t148, t149, t150, t151, t152, t153⟩, A470, H⟩ := H
     replace H : (some (t146, t147, t148, t149, t150, t151, t152, t153, 0)) = some (r1, r2, r3, r4, r5, r6, r7, r8, r9) := H
     have A47 := Aside0.mk A470
     clear A470
     simp only [Option.some.injEq, Prod.mk.injEq] at H
     obtain ⟨rfl, rfl, rfl, rfl, rfl, rfl, rfl, rfl, rfl⟩ := H
     have hnb48 := NB135_136.out
     have hnc48 := NB136_135.out
     have hnb49 := NB135_137.out
     have hnc49 := NB137_135.out
     have hnb50 := NB135_145.out
     have hnc50 := NB145_135.out
     obtain ⟨hcz51_0, hcz51_1, hcz51_2, hcz51_3, hcz51_4, hcz51_5, hcz51_6, hcz51_7, hfz51_0, hfz51_1, hfz51_2, hfz51_3, hfz51_4, hfz51_5, hfz51_6, hfz51_7⟩ := bxc8 BK135.out
     go_wp2_with (first | ((with_reducible refine gate_callee (f := 30) rfl ?_); refine goesL_ (some 45) rfl rfl Tryd.func30 (by kernel_rfl) rfl #[.agg #[.int .i64 a1_0, .int .i64 a1_1, .int .u8 a1_2, .int .i64 a1_3, .int .i64 a1_4, .int .i64 a1_5, .int .i64 a1_6, .bool a1_7], .int .u8 a2_5, .int .i64 a3, .bool a4] rfl (by (try simp only [List.map_toArray, List.map_cons, List.map_nil]); first | done | rfl | (simp only [List.length_drop, List.length_take]; rfl)) ?_; (with_reducible refine (cycle_charged.calls a1_0 a1_1 a1_2 a1_3 a1_4 a1_5 a1_6 a1_7 a2_5 a3 a4 t146 t147 t148 t149 t150 t151 t152 t153 _ ?side1 A47.out).mono ?_); (case side1 => repeat (first | exact (Kd.C_below HRG0.out HB.out) | exact HRG0.out | (with_reducible refine Kd.C_alloc ?_ _) | (with_reducible refine Kd.C_drewN ?_ _) | (with_reducible refine Kd.C_drew ?_))); rintro e w52 ⟨rfl, hb⟩; refine ⟨_, rfl, ?_⟩; have n0_ := Aside0.mk (blk_below (g := gb135) (o := .cells #[.int .i64 a1_0, .int .i64 a1_1, .int .u8 a1_2, .int .i64 a1_3, .int .i64 a1_4, .int .i64 a1_5, .int .i64 a1_6, .bool a1_7] 25 (0, 0)) (by (with_reducible repeat (first | refine kN ?_ _ | refine kD ?_ | refine kA ?_ _)); exact BK135.out) hb); have n1_ := Aside0.mk (blk_below (g := gb136) (o := .cells #[.int .u8 a2_0, .int .i64 a2_1, .int .i64 a2_2, .int .i64 a2_3, .int .i64 a2_4, .int .u8 0] 28 (0, 0)) (by (with_reducible repeat (first | refine kN ?_ _ | refine kD ?_ | refine kA ?_ _)); exact BK136.out) hb); have n2_ := Aside0.mk (blk_below (g := gb137) (o := .cells #[.int .i64 0, .int .i64 0, .int .u8 0, .int .i64 0, .int .i64 0, .int .i64 0, .int .i64 0, .bool false] 25 (0, 0)) (by (with_reducible repeat (first | refine kN ?_ _ | refine kD ?_ | refine kA ?_ _)); exact BK137.out) hb); have n3_ := Aside0.mk (blk_below (g := gb145) (o := .cells #[.int .u8 t138, .int .i64 t139, .int .i64 t140, .int .i64 t141, .int .i64 t142, .int .u8 t143] 28 (0, 0)) (by (with_reducible repeat (first | refine kN ?_ _ | refine kD ?_ | refine kA ?_ _)); exact BK145.out) hb); have n4_ := Aside0.mk (below_step (by repeat (first | (with_reducible first | exact HB.out | apply kL | apply kM | apply kE | refine kS ?_ GE135.out | refine kS ?_ GE136.out | refine kS ?_ GE137.out | refine kS ?_ GE145.out) | exact HB.out)) hb); clear BK135; clear BK136; clear BK137; clear BK145; clear HB; have BK135 := n0_; have BK136 := n1_; have BK137 := n2_; have BK145 := n3_; have HB := n4_; clear n0_ n1_ n2_ n3_ n4_; (try clear hb); (try clear hb2); (try clear hk); (try clear hi); have hnb53 := NB137_136.out; have hnc53 := NB136_137.out; have hnb54 := NB137_145.out; have hnc54 := NB145_137.out; obtain ⟨hcz55_0, hcz55_1, hcz55_2, hcz55_3, hcz55_4, hcz55_5, hcz55_6, hcz55_7, hfz55_0, hfz55_1, hfz55_2, hfz55_3, hfz55_4, hfz55_5, hfz55_6, hfz55_7⟩ := bxc8 BK137.out))
     refine bodyPost_ret (results_ct rfl _ _ gb137 25 #[.int .i64 t146, .int .i64 t147, .int .u8 t148, .int .i64 t149, .int .i64 t150, .int .i64 t151, .int .i64 t152, .bool t153] (0, 0) _ rfl (by (with_reducible repeat (first | refine kN ?_ _ | refine kD ?_ | refine kA ?_ _)); refine bxw8 (.int .i64 0) (.int .i64 0) (.int .u8 0) (.int .i64 0) (.int .i64 0) (.int .i64 0) (.int .i64 0) (.bool false) ?_; (with_reducible repeat (first | refine kN ?_ _ | refine kD ?_ | refine kA ?_ _)); exact BK137.out) Tryd.underlying25 rfl (by kernel_rfl)) rfl ?_
     exact ⟨by first | rfl | (simp [errW_none, errW_some] <;> rfl) | (simp [*, errW_none, errW_some] <;> rfl), by repeat (first | (with_reducible first | exact HB.out | apply kL | apply kM | apply kE | refine kS ?_ GE135.out | refine kS ?_ GE136.out | refine kS ?_ GE137.out | refine kS ?_ GE145.out) | exact HB.out)⟩
    ·rw [if_neg c46] at H
     have c46b0 : (a1_2 == 1) = false := beq_eq_false_iff_ne.mpr c46
     have c46b1 : (a1_2 != 1) = true := bne_iff_ne.mpr c46
     by_cases c56 : a1_2 = 3
     ·rw [if_pos c56] at H
      have c56b0 : (a1_2 == 3) = true := beq_iff_eq.mpr c56
      have c56b1 : (a1_2 != 3) = false := bne_eq_false_iff_eq.mpr c56
      clear c56
      by_cases c57 : a2_5 = 1
      ·rw [if_pos c57] at H
       have c57b0 : (a2_5 == 1) = true := beq_iff_eq.mpr c57
       have c57b1 : (a2_5 != 1) = false := bne_eq_false_iff_eq.mpr c57
       clear c57
       by_cases c58 : a4 = true
       ·subst c58
        have H1 : (some (a1_0, a1_1, 5, a1_3, a1_4, a1_5, a1_6, a1_7, 0)) = some (r1, r2, r3, r4, r5, r6, r7, r8, r9) := by rw [if_pos rfl] at H; try exact H
        clear H
        have H := H1
        clear H1
        simp only [Option.some.injEq, Prod.mk.injEq] at H
        obtain ⟨rfl, rfl, rfl, rfl, rfl, rfl, rfl, rfl, rfl⟩ := H
        have hnb59 := NB135_136.out
        have hnc59 := NB136_135.out
        have hnb60 := NB135_137.out
        have hnc60 := NB137_135.out
        have hnb61 := NB135_145.out
        have hnc61 := NB145_135.out
        obtain ⟨hcz62_0, hcz62_1, hcz62_2, hcz62_3, hcz62_4, hcz62_5, hcz62_6, hcz62_7, hfz62_0, hfz62_1, hfz62_2, hfz62_3, hfz62_4, hfz62_5, hfz62_6, hfz62_7⟩ := bxc8 BK135.out
        have hnb63 := NB137_136.out
        have hnc63 := NB136_137.out
        have hnb64 := NB137_145.out
        have hnc64 := NB145_137.out
        obtain ⟨hcz65_0, hcz65_1, hcz65_2, hcz65_3, hcz65_4, hcz65_5, hcz65_6, hcz65_7, hfz65_0, hfz65_1, hfz65_2, hfz65_3, hfz65_4, hfz65_5, hfz65_6, hfz65_7⟩ := bxc8 BK137.out
        go_wp2
        refine bodyPost_ret (results_ct rfl _ _ gb137 25 #[.int .i64 a1_0, .int .i64 a1_1, .int .u8 5, .int .i64 a1_3, .int .i64 a1_4, .int .i64 a1_5, .int .i64 a1_6, .bool a1_7] (0, 0) _ rfl (by (with_reducible repeat (first | refine kN ?_ _ | refine kD ?_ | refine kA ?_ _)); refine bxw8 (.int .i64 0) (.int .i64 0) (.int .u8 0) (.int .i64 0) (.int .i64 0) (.int .i64 0) (.int .i64 0) (.bool false) ?_; (with_reducible repeat (first | refine kN ?_ _ | refine kD ?_ | refine kA ?_ _ | refine kR ?_ NB137_135.out _)); (with_reducible repeat (first | refine kN ?_ _ | refine kD ?_ | refine kA ?_ _)); exact BK137.out) Tryd.underlying25 rfl (by kernel_rfl)) rfl ?_
        exact ⟨by first | rfl | (simp [errW_none, errW_some] <;> rfl) | (simp [*, errW_none, errW_some] <;> rfl), by repeat (first | (with_reducible first | exact HB.out | apply kL | apply kM | apply kE | refine kS ?_ GE135.out | refine kS ?_ GE136.out | refine kS ?_ GE137.out | refine kS ?_ GE145.out) | exact HB.out)⟩
       ·replace c58 := Bool.eq_false_iff.mpr c58
        subst c58
        have H1 : (some (a1_0, a1_1, 4, a1_3, a1_4, a1_5, a1_6, a1_7, 0)) = some (r1, r2, r3, r4, r5, r6, r7, r8, r9) := by rw [if_neg (show ¬ (false = true) by decide)] at H; try exact H
        clear H
        have H := H1
        clear H1
        simp only [Option.some.injEq, Prod.mk.injEq] at H
        obtain ⟨rfl, rfl, rfl, rfl, rfl, rfl, rfl, rfl, rfl⟩ := H
        have hnb66 := NB135_136.out
        have hnc66 := NB136_135.out
        have hnb67 := NB135_137.out
        have hnc67 := NB137_135.out
        have hnb68 := NB135_145.out
        have hnc68 := NB145_135.out
        obtain ⟨hcz69_0, hcz69_1, hcz69_2, hcz69_3, hcz69_4, hcz69_5, hcz69_6, hcz69_7, hfz69_0, hfz69_1, hfz69_2, hfz69_3, hfz69_4, hfz69_5, hfz69_6, hfz69_7⟩ := bxc8 BK135.out
        have hnb70 := NB137_136.out
        have hnc70 := NB136_137.out
        have hnb71 := NB137_145.out
        have hnc71 := NB145_137.out
        obtain ⟨hcz72_0, hcz72_1, hcz72_2, hcz72_3, hcz72_4, hcz72_5, hcz72_6, hcz72_7, hfz72_0, hfz72_1, hfz72_2, hfz72_3, hfz72_4, hfz72_5, hfz72_6, hfz72_7⟩ := bxc8 BK137.out
        go_wp2
        refine bodyPost_ret (results_ct rfl _ _ gb137 25 #[.int .i64 a1_0, .int .i64 a1_1, .int .u8 4, .int .i64 a1_3, .int .i64 a1_4, .int .i64 a1_5, .int .i64 a1_6, .bool a1_7] (0, 0) _ rfl (by (with_reducible repeat (first | refine kN ?_ _ | refine kD ?_ | refine kA ?_ _)); refine bxw8 (.int .i64 0) (.int .i64 0) (.int .u8 0) (.int .i64 0) (.int .i64 0) (.int .i64 0) (.int .i64 0) (.bool false) ?_; (with_reducible repeat (first | refine kN ?_ _ | refine kD ?_ | refine kA ?_ _ | refine kR ?_ NB137_135.out _)); (with_reducible repeat (first | refine kN ?_ _ | refine kD ?_ | refine kA ?_ _)); exact BK137.out) Tryd.underlying25 rfl (by kernel_rfl)) rfl ?_
        exact ⟨by first | rfl | (simp [errW_none, errW_some] <;> rfl) | (simp [*, errW_none, errW_some] <;> rfl), by repeat (first | (with_reducible first | exact HB.out | apply kL | apply kM | apply kE | refine kS ?_ GE135.out | refine kS ?_ GE136.out | refine kS ?_ GE137.out | refine kS ?_ GE145.out) | exact HB.out)⟩
      ·rw [if_neg c57] at H
       have c57b0 : (a2_5 == 1) = false := beq_eq_false_iff_ne.mpr c57
       have c57b1 : (a2_5 != 1) = true := bne_iff_ne.mpr c57
       replace H := Option.bind_eq_some_iff.mp H
       obtain ⟨⟨t154, t155, t156, t157, t158, t159, t160, t161⟩, A730, H⟩ := H
       replace H : (some (t154, t155, t156, t157, t158, t159, t160, t161, 0)) = some (r1, r2, r3, r4, r5, r6, r7, r8, r9) := H
       have A73 := Aside0.mk A730
       clear A730
       simp only [Option.some.injEq, Prod.mk.injEq] at H
       obtain ⟨rfl, rfl, rfl, rfl, rfl, rfl, rfl, rfl, rfl⟩ := H
       have hnb74 := NB135_136.out
       have hnc74 := NB136_135.out
       have hnb75 := NB135_137.out
       have hnc75 := NB137_135.out
       have hnb76 := NB135_145.out
       have hnc76 := NB145_135.out
       obtain ⟨hcz77_0, hcz77_1, hcz77_2, hcz77_3, hcz77_4, hcz77_5, hcz77_6, hcz77_7, hfz77_0, hfz77_1, hfz77_2, hfz77_3, hfz77_4, hfz77_5, hfz77_6, hfz77_7⟩ := bxc8 BK135.out
       go_wp2_with (first | ((with_reducible refine gate_callee (f := 31) rfl ?_); refine goesL_ (some 52) rfl rfl Tryd.func31 (by kernel_rfl) rfl #[.agg #[.int .i64 a1_0, .int .i64 a1_1, .int .u8 a1_2, .int .i64 a1_3, .int .i64 a1_4, .int .i64 a1_5, .int .i64 a1_6, .bool a1_7]] rfl (by (try simp only [List.map_toArray, List.map_cons, List.map_nil]); first | done | rfl | (simp only [List.length_drop, List.length_take]; rfl)) ?_; (with_reducible refine (cycle_back.calls a1_0 a1_1 a1_2 a1_3 a1_4 a1_5 a1_6 a1_7 t154 t155 t156 t157 t158 t159 t160 t161 _ A73.out).mono ?_); rintro e w78 ⟨rfl, hb⟩; refine ⟨_, rfl, ?_⟩; have n0_ := Aside0.mk (blk_below (g := gb135) (o := .cells #[.int .i64 a1_0, .int .i64 a1_1, .int .u8 a1_2, .int .i64 a1_3, .int .i64 a1_4, .int .i64 a1_5, .int .i64 a1_6, .bool a1_7] 25 (0, 0)) (by (with_reducible repeat (first | refine kN ?_ _ | refine kD ?_ | refine kA ?_ _)); exact BK135.out) hb); have n1_ := Aside0.mk (blk_below (g := gb136) (o := .cells #[.int .u8 a2_0, .int .i64 a2_1, .int .i64 a2_2, .int .i64 a2_3, .int .i64 a2_4, .int .u8 0] 28 (0, 0)) (by (with_reducible repeat (first | refine kN ?_ _ | refine kD ?_ | refine kA ?_ _)); exact BK136.out) hb); have n2_ := Aside0.mk (blk_below (g := gb137) (o := .cells #[.int .i64 0, .int .i64 0, .int .u8 0, .int .i64 0, .int .i64 0, .int .i64 0, .int .i64 0, .bool false] 25 (0, 0)) (by (with_reducible repeat (first | refine kN ?_ _ | refine kD ?_ | refine kA ?_ _)); exact BK137.out) hb); have n3_ := Aside0.mk (blk_below (g := gb145) (o := .cells #[.int .u8 t138, .int .i64 t139, .int .i64 t140, .int .i64 t141, .int .i64 t142, .int .u8 t143] 28 (0, 0)) (by (with_reducible repeat (first | refine kN ?_ _ | refine kD ?_ | refine kA ?_ _)); exact BK145.out) hb); have n4_ := Aside0.mk (below_step (by repeat (first | (with_reducible first | exact HB.out | apply kL | apply kM | apply kE | refine kS ?_ GE135.out | refine kS ?_ GE136.out | refine kS ?_ GE137.out | refine kS ?_ GE145.out) | exact HB.out)) hb); clear BK135; clear BK136; clear BK137; clear BK145; clear HB; have BK135 := n0_; have BK136 := n1_; have BK137 := n2_; have BK145 := n3_; have HB := n4_; clear n0_ n1_ n2_ n3_ n4_; (try clear hb); (try clear hb2); (try clear hk); (try clear hi); have hnb79 := NB137_136.out; have hnc79 := NB136_137.out; have hnb80 := NB137_145.out; have hnc80 := NB145_137.out; obtain ⟨hcz81_0, hcz81_1, hcz81_2, hcz81_3, hcz81_4, hcz81_5, hcz81_6, hcz81_7, hfz81_0, hfz81_1, hfz81_2, hfz81_3, hfz81_4, hfz81_5, hfz81_6, hfz81_7⟩ := bxc8 BK137.out))
       refine bodyPost_ret (results_ct rfl _ _ gb137 25 #[.int .i64 t154, .int .i64 t155, .int .u8 t156, .int .i64 t157, .int .i64 t158, .int .i64 t159, .int .i64 t160, .bool t161] (0, 0) _ rfl (by (with_reducible repeat (first | refine kN ?_ _ | refine kD ?_ | refine kA ?_ _)); refine bxw8 (.int .i64 0) (.int .i64 0) (.int .u8 0) (.int .i64 0) (.int .i64 0) (.int .i64 0) (.int .i64 0) (.bool false) ?_; (with_reducible repeat (first | refine kN ?_ _ | refine kD ?_ | refine kA ?_ _)); exact BK137.out) Tryd.underlying25 rfl (by kernel_rfl)) rfl ?_
       exact ⟨by first | rfl | (simp [errW_none, errW_some] <;> rfl) | (simp [*, errW_none, errW_some] <;> rfl), by repeat (first | (with_reducible first | exact HB.out | apply kL | apply kM | apply kE | refine kS ?_ GE135.out | refine kS ?_ GE136.out | refine kS ?_ GE137.out | refine kS ?_ GE145.out) | exact HB.out)⟩
     ·rw [if_neg c56] at H
      have c56b0 : (a1_2 == 3) = false := beq_eq_false_iff_ne.mpr c56
      have c56b1 : (a1_2 != 3) = true := bne_iff_ne.mpr c56
      by_cases c82 : a1_2 = 4
      ·rw [if_pos c82] at H
       have c82b0 : (a1_2 == 4) = true := beq_iff_eq.mpr c82
       have c82b1 : (a1_2 != 4) = false := bne_eq_false_iff_eq.mpr c82
       clear c82
       by_cases c83 : a2_5 = 1
       ·rw [if_pos c83] at H
        have c83b0 : (a2_5 == 1) = true := beq_iff_eq.mpr c83
        have c83b1 : (a2_5 != 1) = false := bne_eq_false_iff_eq.mpr c83
        clear c83
        simp only [Option.some.injEq, Prod.mk.injEq] at H
        obtain ⟨rfl, rfl, rfl, rfl, rfl, rfl, rfl, rfl, rfl⟩ := H
        have hnb84 := NB135_136.out
        have hnc84 := NB136_135.out
        have hnb85 := NB135_137.out
        have hnc85 := NB137_135.out
        have hnb86 := NB135_145.out
        have hnc86 := NB145_135.out
        obtain ⟨hcz87_0, hcz87_1, hcz87_2, hcz87_3, hcz87_4, hcz87_5, hcz87_6, hcz87_7, hfz87_0, hfz87_1, hfz87_2, hfz87_3, hfz87_4, hfz87_5, hfz87_6, hfz87_7⟩ := bxc8 BK135.out
        have hnb88 := NB137_136.out
        have hnc88 := NB136_137.out
        have hnb89 := NB137_145.out
        have hnc89 := NB145_137.out
        obtain ⟨hcz90_0, hcz90_1, hcz90_2, hcz90_3, hcz90_4, hcz90_5, hcz90_6, hcz90_7, hfz90_0, hfz90_1, hfz90_2, hfz90_3, hfz90_4, hfz90_5, hfz90_6, hfz90_7⟩ := bxc8 BK137.out
        go_wp2
        refine bodyPost_ret (results_ct rfl _ _ gb137 25 #[.int .i64 a1_0, .int .i64 a1_1, .int .u8 7, .int .i64 a1_3, .int .i64 a1_4, .int .i64 a1_5, .int .i64 a1_6, .bool a1_7] (0, 0) _ rfl (by (with_reducible repeat (first | refine kN ?_ _ | refine kD ?_ | refine kA ?_ _)); refine bxw8 (.int .i64 0) (.int .i64 0) (.int .u8 0) (.int .i64 0) (.int .i64 0) (.int .i64 0) (.int .i64 0) (.bool false) ?_; (with_reducible repeat (first | refine kN ?_ _ | refine kD ?_ | refine kA ?_ _ | refine kR ?_ NB137_135.out _)); (with_reducible repeat (first | refine kN ?_ _ | refine kD ?_ | refine kA ?_ _)); exact BK137.out) Tryd.underlying25 rfl (by kernel_rfl)) rfl ?_
        exact ⟨by first | rfl | (simp [errW_none, errW_some] <;> rfl) | (simp [*, errW_none, errW_some] <;> rfl), by repeat (first | (with_reducible first | exact HB.out | apply kL | apply kM | apply kE | refine kS ?_ GE135.out | refine kS ?_ GE136.out | refine kS ?_ GE137.out | refine kS ?_ GE145.out) | exact HB.out)⟩
       ·rw [if_neg c83] at H
        have c83b0 : (a2_5 == 1) = false := beq_eq_false_iff_ne.mpr c83
        have c83b1 : (a2_5 != 1) = true := bne_iff_ne.mpr c83
        simp only [Option.some.injEq, Prod.mk.injEq] at H
        obtain ⟨rfl, rfl, rfl, rfl, rfl, rfl, rfl, rfl, rfl⟩ := H
        have hnb91 := NB135_136.out
        have hnc91 := NB136_135.out
        have hnb92 := NB135_137.out
        have hnc92 := NB137_135.out
        have hnb93 := NB135_145.out
        have hnc93 := NB145_135.out
        obtain ⟨hcz94_0, hcz94_1, hcz94_2, hcz94_3, hcz94_4, hcz94_5, hcz94_6, hcz94_7, hfz94_0, hfz94_1, hfz94_2, hfz94_3, hfz94_4, hfz94_5, hfz94_6, hfz94_7⟩ := bxc8 BK135.out
        have hnb95 := NB137_136.out
        have hnc95 := NB136_137.out
        have hnb96 := NB137_145.out
        have hnc96 := NB145_137.out
        obtain ⟨hcz97_0, hcz97_1, hcz97_2, hcz97_3, hcz97_4, hcz97_5, hcz97_6, hcz97_7, hfz97_0, hfz97_1, hfz97_2, hfz97_3, hfz97_4, hfz97_5, hfz97_6, hfz97_7⟩ := bxc8 BK137.out
        go_wp2_with (first | ((with_reducible refine gate_store (t := 25) (p := 10) rfl ?_); refine rec_event (t := 25) (p := 10) (v := ?vo_w98) (g := gb137) (t' := 25) #[.int .i64 0, .int .i64 0, .int .u8 0, .int .i64 0, .int .i64 0, .int .i64 0, .int .i64 0, .bool false] #[.int .i64 a1_0, .int .i64 a1_1, .int .u8 5, .int .i64 a1_3, .int .i64 a1_4, .int .i64 a1_5, .int .i64 a1_6, .bool a1_7] ?hg ?ho ?hn ?hx ?hy ?hb (by rfl) (by kernel_rfl) (by kernel_rfl) ?_; (case ho => rfl); (case hg => rfl); (case hn => rfl); (case hx => rfl); (case hy => rfl); (case hb => exact by (with_reducible repeat (first | refine kN ?_ _ | refine kD ?_ | refine kA ?_ _ | refine kR ?_ NB137_135.out _)); (with_reducible repeat (first | refine kN ?_ _ | refine kD ?_ | refine kA ?_ _)); exact BK137.out); intro w98 hblk hoth hbel; have n0_ : Aside0 (w98.heap[gb135]? = some (.cells #[.int .i64 a1_0, .int .i64 a1_1, .int .u8 5, .int .i64 a1_3, .int .i64 a1_4, .int .i64 a1_5, .int .i64 a1_6, .bool a1_7] 25 (0, 0))) := ⟨(hoth gb135 NB135_137.out).trans (by (with_reducible repeat (first | refine kN ?_ _ | refine kD ?_ | refine kA ?_ _)); refine bxp8_2 (o := .int .u8 7) ?_; (with_reducible repeat (first | refine kN ?_ _ | refine kD ?_ | refine kA ?_ _)); refine bxp8_2 (o := .int .u8 a1_2) ?_; (with_reducible repeat (first | refine kN ?_ _ | refine kD ?_ | refine kA ?_ _)); exact BK135.out)⟩; have n1_ : Aside0 (w98.heap[gb136]? = some (.cells #[.int .u8 a2_0, .int .i64 a2_1, .int .i64 a2_2, .int .i64 a2_3, .int .i64 a2_4, .int .u8 0] 28 (0, 0))) := ⟨(hoth gb136 NB136_137.out).trans (by (with_reducible repeat (first | refine kN ?_ _ | refine kD ?_ | refine kA ?_ _ | refine kR ?_ NB136_135.out _)); (with_reducible repeat (first | refine kN ?_ _ | refine kD ?_ | refine kA ?_ _)); exact BK136.out)⟩; have n2_ : Aside0 (w98.heap[gb137]? = some (.cells #[.int .i64 a1_0, .int .i64 a1_1, .int .u8 5, .int .i64 a1_3, .int .i64 a1_4, .int .i64 a1_5, .int .i64 a1_6, .bool a1_7] 25 (0, 0))) := ⟨hblk⟩; have n3_ : Aside0 (w98.heap[gb145]? = some (.cells #[.int .u8 t138, .int .i64 t139, .int .i64 t140, .int .i64 t141, .int .i64 t142, .int .u8 t143] 28 (0, 0))) := ⟨(hoth gb145 NB145_137.out).trans (by (with_reducible repeat (first | refine kN ?_ _ | refine kD ?_ | refine kA ?_ _ | refine kR ?_ NB145_135.out _)); (with_reducible repeat (first | refine kN ?_ _ | refine kD ?_ | refine kA ?_ _)); exact BK145.out)⟩; have n4_ : Aside0 (Below w.heap.size w w98) := ⟨Below.trans (by repeat (first | (with_reducible first | exact HB.out | apply kL | apply kM | apply kE | refine kS ?_ GE135.out | refine kS ?_ GE136.out | refine kS ?_ GE137.out | refine kS ?_ GE145.out) | exact HB.out)) (hbel _ GE137.out)⟩; clear hblk hoth hbel; clear BK135; clear BK136; clear BK137; clear BK145; clear HB; have BK135 := n0_; have BK136 := n1_; have BK137 := n2_; have BK145 := n3_; have HB := n4_; clear n0_ n1_ n2_ n3_ n4_))
        refine bodyPost_ret (results_ct rfl _ _ gb137 25 #[.int .i64 a1_0, .int .i64 a1_1, .int .u8 5, .int .i64 a1_3, .int .i64 a1_4, .int .i64 a1_5, .int .i64 a1_6, .bool a1_7] (0, 0) _ rfl (by (with_reducible repeat (first | refine kN ?_ _ | refine kD ?_ | refine kA ?_ _)); exact BK137.out) Tryd.underlying25 rfl (by kernel_rfl)) rfl ?_
        exact ⟨by first | rfl | (simp [errW_none, errW_some] <;> rfl) | (simp [*, errW_none, errW_some] <;> rfl), by repeat (first | (with_reducible first | exact HB.out | apply kL | apply kM | apply kE | refine kS ?_ GE135.out | refine kS ?_ GE136.out | refine kS ?_ GE137.out | refine kS ?_ GE145.out) | exact HB.out)⟩
      ·rw [if_neg c82] at H
       have c82b0 : (a1_2 == 4) = false := beq_eq_false_iff_ne.mpr c82
       have c82b1 : (a1_2 != 4) = true := bne_iff_ne.mpr c82
       by_cases c99 : a1_2 = 5
       ·rw [if_pos c99] at H
        have c99b0 : (a1_2 == 5) = true := beq_iff_eq.mpr c99
        have c99b1 : (a1_2 != 5) = false := bne_eq_false_iff_eq.mpr c99
        clear c99
        replace H := Option.bind_eq_some_iff.mp H
        obtain ⟨⟨t162, t163, t164, t165, t166, t167, t168, t169⟩, A1000, H⟩ := H
        replace H : (some (t162, t163, t164, t165, t166, t167, t168, t169, 0)) = some (r1, r2, r3, r4, r5, r6, r7, r8, r9) := H
        have A100 := Aside0.mk A1000
        clear A1000
        simp only [Option.some.injEq, Prod.mk.injEq] at H
        obtain ⟨rfl, rfl, rfl, rfl, rfl, rfl, rfl, rfl, rfl⟩ := H
        have hnb101 := NB135_136.out
        have hnc101 := NB136_135.out
        have hnb102 := NB135_137.out
        have hnc102 := NB137_135.out
        have hnb103 := NB135_145.out
        have hnc103 := NB145_135.out
        obtain ⟨hcz104_0, hcz104_1, hcz104_2, hcz104_3, hcz104_4, hcz104_5, hcz104_6, hcz104_7, hfz104_0, hfz104_1, hfz104_2, hfz104_3, hfz104_4, hfz104_5, hfz104_6, hfz104_7⟩ := bxc8 BK135.out
        go_wp2_with (first | ((with_reducible refine gate_callee (f := 31) rfl ?_); refine goesL_ (some 67) rfl rfl Tryd.func31 (by kernel_rfl) rfl #[.agg #[.int .i64 a1_0, .int .i64 a1_1, .int .u8 a1_2, .int .i64 a1_3, .int .i64 a1_4, .int .i64 a1_5, .int .i64 a1_6, .bool a1_7]] rfl (by (try simp only [List.map_toArray, List.map_cons, List.map_nil]); first | done | rfl | (simp only [List.length_drop, List.length_take]; rfl)) ?_; (with_reducible refine (cycle_back.calls a1_0 a1_1 a1_2 a1_3 a1_4 a1_5 a1_6 a1_7 t162 t163 t164 t165 t166 t167 t168 t169 _ A100.out).mono ?_); rintro e w105 ⟨rfl, hb⟩; refine ⟨_, rfl, ?_⟩; have n0_ := Aside0.mk (blk_below (g := gb135) (o := .cells #[.int .i64 a1_0, .int .i64 a1_1, .int .u8 a1_2, .int .i64 a1_3, .int .i64 a1_4, .int .i64 a1_5, .int .i64 a1_6, .bool a1_7] 25 (0, 0)) (by (with_reducible repeat (first | refine kN ?_ _ | refine kD ?_ | refine kA ?_ _)); exact BK135.out) hb); have n1_ := Aside0.mk (blk_below (g := gb136) (o := .cells #[.int .u8 a2_0, .int .i64 a2_1, .int .i64 a2_2, .int .i64 a2_3, .int .i64 a2_4, .int .u8 0] 28 (0, 0)) (by (with_reducible repeat (first | refine kN ?_ _ | refine kD ?_ | refine kA ?_ _)); exact BK136.out) hb); have n2_ := Aside0.mk (blk_below (g := gb137) (o := .cells #[.int .i64 0, .int .i64 0, .int .u8 0, .int .i64 0, .int .i64 0, .int .i64 0, .int .i64 0, .bool false] 25 (0, 0)) (by (with_reducible repeat (first | refine kN ?_ _ | refine kD ?_ | refine kA ?_ _)); exact BK137.out) hb); have n3_ := Aside0.mk (blk_below (g := gb145) (o := .cells #[.int .u8 t138, .int .i64 t139, .int .i64 t140, .int .i64 t141, .int .i64 t142, .int .u8 t143] 28 (0, 0)) (by (with_reducible repeat (first | refine kN ?_ _ | refine kD ?_ | refine kA ?_ _)); exact BK145.out) hb); have n4_ := Aside0.mk (below_step (by repeat (first | (with_reducible first | exact HB.out | apply kL | apply kM | apply kE | refine kS ?_ GE135.out | refine kS ?_ GE136.out | refine kS ?_ GE137.out | refine kS ?_ GE145.out) | exact HB.out)) hb); clear BK135; clear BK136; clear BK137; clear BK145; clear HB; have BK135 := n0_; have BK136 := n1_; have BK137 := n2_; have BK145 := n3_; have HB := n4_; clear n0_ n1_ n2_ n3_ n4_; (try clear hb); (try clear hb2); (try clear hk); (try clear hi); have hnb106 := NB137_136.out; have hnc106 := NB136_137.out; have hnb107 := NB137_145.out; have hnc107 := NB145_137.out; obtain ⟨hcz108_0, hcz108_1, hcz108_2, hcz108_3, hcz108_4, hcz108_5, hcz108_6, hcz108_7, hfz108_0, hfz108_1, hfz108_2, hfz108_3, hfz108_4, hfz108_5, hfz108_6, hfz108_7⟩ := bxc8 BK137.out))
        refine bodyPost_ret (results_ct rfl _ _ gb137 25 #[.int .i64 t162, .int .i64 t163, .int .u8 t164, .int .i64 t165, .int .i64 t166, .int .i64 t167, .int .i64 t168, .bool t169] (0, 0) _ rfl (by (with_reducible repeat (first | refine kN ?_ _ | refine kD ?_ | refine kA ?_ _)); refine bxw8 (.int .i64 0) (.int .i64 0) (.int .u8 0) (.int .i64 0) (.int .i64 0) (.int .i64 0) (.int .i64 0) (.bool false) ?_; (with_reducible repeat (first | refine kN ?_ _ | refine kD ?_ | refine kA ?_ _)); exact BK137.out) Tryd.underlying25 rfl (by kernel_rfl)) rfl ?_
        exact ⟨by first | rfl | (simp [errW_none, errW_some] <;> rfl) | (simp [*, errW_none, errW_some] <;> rfl), by repeat (first | (with_reducible first | exact HB.out | apply kL | apply kM | apply kE | refine kS ?_ GE135.out | refine kS ?_ GE136.out | refine kS ?_ GE137.out | refine kS ?_ GE145.out) | exact HB.out)⟩
       ·rw [if_neg c99] at H
        have c99b0 : (a1_2 == 5) = false := beq_eq_false_iff_ne.mpr c99
        have c99b1 : (a1_2 != 5) = true := bne_iff_ne.mpr c99
        simp only [Option.some.injEq, Prod.mk.injEq] at H
        obtain ⟨rfl, rfl, rfl, rfl, rfl, rfl, rfl, rfl, rfl⟩ := H
        have hnb109 := NB135_136.out
        have hnc109 := NB136_135.out
        have hnb110 := NB135_137.out
        have hnc110 := NB137_135.out
        have hnb111 := NB135_145.out
        have hnc111 := NB145_135.out
        obtain ⟨hcz112_0, hcz112_1, hcz112_2, hcz112_3, hcz112_4, hcz112_5, hcz112_6, hcz112_7, hfz112_0, hfz112_1, hfz112_2, hfz112_3, hfz112_4, hfz112_5, hfz112_6, hfz112_7⟩ := bxc8 BK135.out
        have hnb113 := NB137_136.out
        have hnc113 := NB136_137.out
        have hnb114 := NB137_145.out
        have hnc114 := NB145_137.out
        obtain ⟨hcz115_0, hcz115_1, hcz115_2, hcz115_3, hcz115_4, hcz115_5, hcz115_6, hcz115_7, hfz115_0, hfz115_1, hfz115_2, hfz115_3, hfz115_4, hfz115_5, hfz115_6, hfz115_7⟩ := bxc8 BK137.out
        go_wp2
        refine bodyPost_ret (results_ct rfl _ _ gb137 25 #[.int .i64 a1_0, .int .i64 a1_1, .int .u8 9, .int .i64 a1_3, .int .i64 a1_4, .int .i64 a1_5, .int .i64 a1_6, .bool a1_7] (0, 0) _ rfl (by (with_reducible repeat (first | refine kN ?_ _ | refine kD ?_ | refine kA ?_ _)); refine bxw8 (.int .i64 0) (.int .i64 0) (.int .u8 0) (.int .i64 0) (.int .i64 0) (.int .i64 0) (.int .i64 0) (.bool false) ?_; (with_reducible repeat (first | refine kN ?_ _ | refine kD ?_ | refine kA ?_ _ | refine kR ?_ NB137_135.out _)); (with_reducible repeat (first | refine kN ?_ _ | refine kD ?_ | refine kA ?_ _)); exact BK137.out) Tryd.underlying25 rfl (by kernel_rfl)) rfl ?_
        exact ⟨by first | rfl | (simp [errW_none, errW_some] <;> rfl) | (simp [*, errW_none, errW_some] <;> rfl), by repeat (first | (with_reducible first | exact HB.out | apply kL | apply kM | apply kE | refine kS ?_ GE135.out | refine kS ?_ GE136.out | refine kS ?_ GE137.out | refine kS ?_ GE145.out) | exact HB.out)⟩

end Go.Proofs.YtlfaaogifplgeaaDoor.PA
