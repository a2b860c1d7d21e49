-- printed by this workplace: wip/patchprint.py over the kit's print
import Derived.Test.YtlfaaogifplgeaaDoorPAx0
import Derived.Test.YtlfaaogifplgeaaDoorPAx1
import Derived.Test.YtlfaaogifplgeaaDoorPAx3
import Derived.Test.YtlfaaogifplgeaaDoorPAx11
import Derived.Test.YtlfaaogifplgeaaDoorPAx20
import Derived.Test.YtlfaaogifplgeaaDoorPAx22
namespace Go.Proofs.YtlfaaogifplgeaaDoor.PA
open Go.RowKit Go.Proofs.YtlfaaogifplgeaaDoorW.PrintWords Go.Proofs.YtlfaaogifplgeaaDoorW.PrintLast Go.Proofs.YtlfaaogifplgeaaDoorW.PrintMore
attribute [local go_sem] max2_int min2_int max_two min_two max_three min_three max_four min_four   -- for this text's walks alone
set_option linter.unusedVariables false
set_option linter.unusedSimpArgs false

attribute [local go_sem high] eqA25
/-! ### paybooklaw12_CycleWakes: function 10 -/
mutual
def paybooklaw12_CycleWakes.j0 : Nat → Int → Int → Int → Int → Int → Int → Int → Int → Bool → Int → Int → Int → Int → Int → Int → Int → Bool → Int → Int → Int → Int → Int → Int → Int → Bool → Option (Bool)
 | 0, _, _, _, _, _, _, _, _, _, _, _, _, _, _, _, _, _, _, _, _, _, _, _, _, _ => none
 | k + 1, x4, x458000, x458001, x458002, x458003, x458004, x458005, x458006, x458007, x459000, x459001, x459002, x459003, x459004, x459005, x459006, x459007, x460000, x460001, x460002, x460003, x460004, x460005, x460006, x460007 => if (wrap64 (x4)) < x458006 then (paybooklaw12_CycleWakes.j1 k x4 x458000 x458001 x458002 x458003 x458004 x458005 x458006 x458007 x459000 x459001 x459002 x459003 x459004 x459005 x459006 x459007 x460000 x460001 x460002 x460003 x460004 x460005 x460006 x460007 x458000 x458001 x458002 x458003 x458004 x458005 x458006 x458007) else (paybooklaw12_CycleWakes.j1 k x4 x458000 x458001 x458002 x458003 x458004 x458005 x458006 x458007 x459000 x459001 x459002 x459003 x459004 x459005 x459006 x459007 x460000 x460001 x460002 x460003 x460004 x460005 x460006 x460007 x459000 x459001 x459002 x459003 x459004 x459005 x459006 x459007)
def paybooklaw12_CycleWakes.j1 : Nat → Int → Int → Int → Int → Int → Int → Int → Int → Bool → Int → Int → Int → Int → Int → Int → Int → Bool → Int → Int → Int → Int → Int → Int → Int → Bool → Int → Int → Int → Int → Int → Int → Int → Bool → Option (Bool)
 | 0, _, _, _, _, _, _, _, _, _, _, _, _, _, _, _, _, _, _, _, _, _, _, _, _, _, _, _, _, _, _, _, _, _ => none
 | k + 1, x4, x458000, x458001, x458002, x458003, x458004, x458005, x458006, x458007, x459000, x459001, x459002, x459003, x459004, x459005, x459006, x459007, x460000, x460001, x460002, x460003, x460004, x460005, x460006, x460007, x461000, x461001, x461002, x461003, x461004, x461005, x461006, x461007 => (paybooklaw12_awake.f k).bind fun t461 => (if t461 = true then ((cycle_Card.f x458000 x458001 x458002 x458003 x458004 x458005 x458006 x458007).bind fun bt462 => (if (bt462.1 == x459000 && (bt462.2.1 == x459001 && (bt462.2.2.1 == x459002 && (bt462.2.2.2.1 == x459003 && (bt462.2.2.2.2.1 == x459004 && (bt462.2.2.2.2.2.1 == x459005 && (bt462.2.2.2.2.2.2.1 == x459006 && (bt462.2.2.2.2.2.2.2 == x459007)))))))) = true then ((cycle_Over.f x458000 x458001 x458002 x458003 x458004 x458005 x458006 x458007).bind fun bt470 => (if (bt470.1 == x460000 && (bt470.2.1 == x460001 && (bt470.2.2.1 == x460002 && (bt470.2.2.2.1 == x460003 && (bt470.2.2.2.2.1 == x460004 && (bt470.2.2.2.2.2.1 == x460005 && (bt470.2.2.2.2.2.2.1 == x460006 && (bt470.2.2.2.2.2.2.2 == x460007)))))))) = true then ((cycle_Wake.f x458000 x458001 x458002 x458003 x458004 x458005 x458006 x458007 (wrap64 (x4))).bind fun bt478 => (some (bt478.1 == x461000 && (bt478.2.1 == x461001 && (bt478.2.2.1 == x461002 && (bt478.2.2.2.1 == x461003 && (bt478.2.2.2.2.1 == x461004 && (bt478.2.2.2.2.2.1 == x461005 && (bt478.2.2.2.2.2.2.1 == x461006 && (bt478.2.2.2.2.2.2.2 == x461007)))))))))) else (some false))) else (some false))) else (some false))
end
def paybooklaw12_CycleWakes.f (k : Nat) (a0 : Int) (a1 : Int) (a2 : Int) (a3 : Int) (a4 : Int) : Option (Bool) := (paybooklaw12_at.f k a0 7 9 a1 5 a2 a3 true).bind fun bt449 => (if bt449.2.2.1 = 2 then (paybooklaw12_CycleWakes.j0 k a4 bt449.1 bt449.2.1 bt449.2.2.1 bt449.2.2.2.1 bt449.2.2.2.2.1 bt449.2.2.2.2.2.1 bt449.2.2.2.2.2.2.1 bt449.2.2.2.2.2.2.2 bt449.1 bt449.2.1 1 bt449.2.2.2.1 bt449.2.2.2.2.1 (wrap64 (bt449.2.2.2.2.2.1 + 1)) 0 bt449.2.2.2.2.2.2.2 bt449.1 bt449.2.1 8 bt449.2.2.2.1 bt449.2.2.2.2.1 bt449.2.2.2.2.2.1 0 bt449.2.2.2.2.2.2.2) else (paybooklaw12_CycleWakes.j0 k a4 bt449.1 bt449.2.1 bt449.2.2.1 bt449.2.2.2.1 bt449.2.2.2.2.1 bt449.2.2.2.2.2.1 bt449.2.2.2.2.2.2.1 bt449.2.2.2.2.2.2.2 bt449.1 bt449.2.1 bt449.2.2.1 bt449.2.2.2.1 bt449.2.2.2.2.1 bt449.2.2.2.2.2.1 bt449.2.2.2.2.2.2.1 bt449.2.2.2.2.2.2.2 bt449.1 bt449.2.1 bt449.2.2.1 bt449.2.2.2.1 bt449.2.2.2.2.1 bt449.2.2.2.2.2.1 bt449.2.2.2.2.2.2.1 bt449.2.2.2.2.2.2.2))
theorem paybooklaw12_CycleWakes.mono_l : ∀ k, (∀ y0 y1 y2 y3 y4 y5 y6 y7 y8 y9 y10 y11 y12 y13 y14 y15 y16 y17 y18 y19 y20 y21 y22 y23 y24, LeO (paybooklaw12_CycleWakes.j0 k y0 y1 y2 y3 y4 y5 y6 y7 y8 y9 y10 y11 y12 y13 y14 y15 y16 y17 y18 y19 y20 y21 y22 y23 y24) (paybooklaw12_CycleWakes.j0 (k + 1) y0 y1 y2 y3 y4 y5 y6 y7 y8 y9 y10 y11 y12 y13 y14 y15 y16 y17 y18 y19 y20 y21 y22 y23 y24)) ∧ (∀ y0 y1 y2 y3 y4 y5 y6 y7 y8 y9 y10 y11 y12 y13 y14 y15 y16 y17 y18 y19 y20 y21 y22 y23 y24 y25 y26 y27 y28 y29 y30 y31 y32, LeO (paybooklaw12_CycleWakes.j1 k y0 y1 y2 y3 y4 y5 y6 y7 y8 y9 y10 y11 y12 y13 y14 y15 y16 y17 y18 y19 y20 y21 y22 y23 y24 y25 y26 y27 y28 y29 y30 y31 y32) (paybooklaw12_CycleWakes.j1 (k + 1) y0 y1 y2 y3 y4 y5 y6 y7 y8 y9 y10 y11 y12 y13 y14 y15 y16 y17 y18 y19 y20 y21 y22 y23 y24 y25 y26 y27 y28 y29 y30 y31 y32))
 | 0 => ⟨fun _ _ _ _ _ _ _ _ _ _ _ _ _ _ _ _ _ _ _ _ _ _ _ _ _ r h => by simp [paybooklaw12_CycleWakes.j0] at h, fun _ _ _ _ _ _ _ _ _ _ _ _ _ _ _ _ _ _ _ _ _ _ _ _ _ _ _ _ _ _ _ _ _ r h => by simp [paybooklaw12_CycleWakes.j1] at h⟩
 | k + 1 => by
  obtain ⟨ih0, ih1⟩ := paybooklaw12_CycleWakes.mono_l k
  refine ⟨?_, ?_⟩
  ·intro y0 y1 y2 y3 y4 y5 y6 y7 y8 y9 y10 y11 y12 y13 y14 y15 y16 y17 y18 y19 y20 y21 y22 y23 y24
   unfold paybooklaw12_CycleWakes.j0
   repeat' first
   | (with_reducible exact ih0 _ _ _ _ _ _ _ _ _ _ _ _ _ _ _ _ _ _ _ _ _ _ _ _ _)
   | (with_reducible exact ih1 _ _ _ _ _ _ _ _ _ _ _ _ _ _ _ _ _ _ _ _ _ _ _ _ _ _ _ _ _ _ _ _ _)
   | (with_reducible exact paybooklaw12_at.mono _ _ _ _ _ _ _ _ _)
   | (with_reducible exact paybooklaw12_awake.mono _)
   | (with_reducible exact LeO.refl _)
   | (with_reducible exact LeO.none _)
   | (with_reducible refine LeO.ite ?_ ?_)
   | (with_reducible refine LeO.bind ?_ (fun _ => ?_))
   | exact ih0 _ _ _ _ _ _ _ _ _ _ _ _ _ _ _ _ _ _ _ _ _ _ _ _ _
   | exact ih1 _ _ _ _ _ _ _ _ _ _ _ _ _ _ _ _ _ _ _ _ _ _ _ _ _ _ _ _ _ _ _ _ _
   | exact paybooklaw12_at.mono _ _ _ _ _ _ _ _ _
   | exact paybooklaw12_awake.mono _
   | exact LeO.none _
   | refine LeO.ite ?_ ?_
   | refine LeO.bind ?_ (fun _ => ?_)
  ·intro y0 y1 y2 y3 y4 y5 y6 y7 y8 y9 y10 y11 y12 y13 y14 y15 y16 y17 y18 y19 y20 y21 y22 y23 y24 y25 y26 y27 y28 y29 y30 y31 y32
   unfold paybooklaw12_CycleWakes.j1
   repeat' first
   | (with_reducible exact ih0 _ _ _ _ _ _ _ _ _ _ _ _ _ _ _ _ _ _ _ _ _ _ _ _ _)
   | (with_reducible exact ih1 _ _ _ _ _ _ _ _ _ _ _ _ _ _ _ _ _ _ _ _ _ _ _ _ _ _ _ _ _ _ _ _ _)
   | (with_reducible exact paybooklaw12_at.mono _ _ _ _ _ _ _ _ _)
   | (with_reducible exact paybooklaw12_awake.mono _)
   | (with_reducible exact LeO.refl _)
   | (with_reducible exact LeO.none _)
   | (with_reducible refine LeO.ite ?_ ?_)
   | (with_reducible refine LeO.bind ?_ (fun _ => ?_))
   | exact ih0 _ _ _ _ _ _ _ _ _ _ _ _ _ _ _ _ _ _ _ _ _ _ _ _ _
   | exact ih1 _ _ _ _ _ _ _ _ _ _ _ _ _ _ _ _ _ _ _ _ _ _ _ _ _ _ _ _ _ _ _ _ _
   | exact paybooklaw12_at.mono _ _ _ _ _ _ _ _ _
   | exact paybooklaw12_awake.mono _
   | exact LeO.none _
   | refine LeO.ite ?_ ?_
   | refine LeO.bind ?_ (fun _ => ?_)
theorem paybooklaw12_CycleWakes.mono : ∀ a0 a1 a2 a3 a4 k, LeO (paybooklaw12_CycleWakes.f k a0 a1 a2 a3 a4) (paybooklaw12_CycleWakes.f (k + 1) a0 a1 a2 a3 a4) := by
 intro a0 a1 a2 a3 a4 k
 obtain ⟨ih0, ih1⟩ := paybooklaw12_CycleWakes.mono_l k
 unfold paybooklaw12_CycleWakes.f
 repeat' first
   | (with_reducible exact ih0 _ _ _ _ _ _ _ _ _ _ _ _ _ _ _ _ _ _ _ _ _ _ _ _ _)
   | (with_reducible exact ih1 _ _ _ _ _ _ _ _ _ _ _ _ _ _ _ _ _ _ _ _ _ _ _ _ _ _ _ _ _ _ _ _ _)
   | (with_reducible exact paybooklaw12_at.mono _ _ _ _ _ _ _ _ _)
   | (with_reducible exact paybooklaw12_awake.mono _)
   | (with_reducible exact LeO.refl _)
   | (with_reducible exact LeO.none _)
   | (with_reducible refine LeO.ite ?_ ?_)
   | (with_reducible refine LeO.bind ?_ (fun _ => ?_))
   | exact ih0 _ _ _ _ _ _ _ _ _ _ _ _ _ _ _ _ _ _ _ _ _ _ _ _ _
   | exact ih1 _ _ _ _ _ _ _ _ _ _ _ _ _ _ _ _ _ _ _ _ _ _ _ _ _ _ _ _ _ _ _ _ _
   | exact paybooklaw12_at.mono _ _ _ _ _ _ _ _ _
   | exact paybooklaw12_awake.mono _
   | exact LeO.none _
   | refine LeO.ite ?_ ?_
   | refine LeO.bind ?_ (fun _ => ?_)
def paybooklaw12_CycleWakes.T13 : Bool × List (List Nat × List Nat) := (true, [([], []), ([0, 0], [0]), ([1], [1]), ([2, 1, 1], [1, 2]), ([1], [1]), ([3, 4, 1], [1, 3, 4]), ([1, 5], [1, 5]), ([6, 3], [6]), ([7], [7]), ([8, 7, 7], [7, 8]), ([7], [7]), ([9, 10, 7], [7, 9, 10]), ([7, 11], [7, 11]), ([12, 9], [12]), ([13], [13]), ([13], [13]), ([15, 13], [13, 15]), ([14, 16, 13, 13], [13, 14, 16]), ([13], [13]), ([17, 18, 13], [13, 17, 18]), ([13, 19], [13, 19]), ([20, 17, 0, 1, 2, 3, 4, 5, 6, 7, 8, 9, 10, 11, 12, 13, 14, 15, 16, 17, 18, 19, 20], [20])])
def paybooklaw12_CycleWakes.B13 : List Nat := [0, 1, 3, 7, 3, 31, 63, 127, 255, 511, 255, 2047, 4095, 8191, 16383, 16383, 49151, 131071, 16383, 524287, 1048575, 2097151]
theorem paybooklaw12_CycleWakes.tab13 : rtab .any (opsOf Tryd.f10 13) = paybooklaw12_CycleWakes.T13 := by kernel_rfl
theorem paybooklaw12_CycleWakes.bits13 : waitsOk paybooklaw12_CycleWakes.T13.2 paybooklaw12_CycleWakes.B13 = true := by kernel_rfl
set_option maxHeartbeats 40000000 in
set_option maxRecDepth 100000 in
theorem paybooklaw12_CycleWakes.calls (k : Nat) (a0 : Int) (a1 : Int) (a2 : Int) (a3 : Int) (a4 : Int) (w : World) (hrG0 : Kd.C (Kd.int .i64) w (some ⟨0, 0, none⟩) 3 gl0) (h : paybooklaw12_CycleWakes.f k a0 a1 a2 a3 a4 = some true) :
  Calls Tryd.prog 10 #[.int .u8 a0, .int .u32 a1, .int .u8 a2, .int .u16 a3, .int .u16 a4] w fun e w' => e = .returned (.bool true) ∧ Below w.heap.size w w' := by
 have hu25 := Tryd.underlying25
 have HRG0 := Aside0.mk hrG0
 clear hrG0
 have HB := Aside0.mk (Below.refl w.heap.size w)
 have H : ((paybooklaw12_at.f k a0 7 9 a1 5 a2 a3 true).bind fun bt449 => (if bt449.2.2.1 = 2 then (paybooklaw12_CycleWakes.j0 k a4 bt449.1 bt449.2.1 bt449.2.2.1 bt449.2.2.2.1 bt449.2.2.2.2.1 bt449.2.2.2.2.2.1 bt449.2.2.2.2.2.2.1 bt449.2.2.2.2.2.2.2 bt449.1 bt449.2.1 1 bt449.2.2.2.1 bt449.2.2.2.2.1 (wrap64 (bt449.2.2.2.2.2.1 + 1)) 0 bt449.2.2.2.2.2.2.2 bt449.1 bt449.2.1 8 bt449.2.2.2.1 bt449.2.2.2.2.1 bt449.2.2.2.2.2.1 0 bt449.2.2.2.2.2.2.2) else (paybooklaw12_CycleWakes.j0 k a4 bt449.1 bt449.2.1 bt449.2.2.1 bt449.2.2.2.1 bt449.2.2.2.2.1 bt449.2.2.2.2.2.1 bt449.2.2.2.2.2.2.1 bt449.2.2.2.2.2.2.2 bt449.1 bt449.2.1 bt449.2.2.1 bt449.2.2.2.1 bt449.2.2.2.2.1 bt449.2.2.2.2.2.1 bt449.2.2.2.2.2.2.1 bt449.2.2.2.2.2.2.2 bt449.1 bt449.2.1 bt449.2.2.1 bt449.2.2.2.1 bt449.2.2.2.2.1 bt449.2.2.2.2.2.1 bt449.2.2.2.2.2.2.1 bt449.2.2.2.2.2.2.2))) = some true := h
 clear h
 replace H := Option.bind_eq_some_iff.mp H
 obtain ⟨⟨t449, t450, t451, t452, t453, t454, t455, t456⟩, A60, H⟩ := H
 replace H : (if t451 = 2 then (paybooklaw12_CycleWakes.j0 k a4 t449 t450 t451 t452 t453 t454 t455 t456 t449 t450 1 t452 t453 (wrap64 (t454 + 1)) 0 t456 t449 t450 8 t452 t453 t454 0 t456) else (paybooklaw12_CycleWakes.j0 k a4 t449 t450 t451 t452 t453 t454 t455 t456 t449 t450 t451 t452 t453 t454 t455 t456 t449 t450 t451 t452 t453 t454 t455 t456)) = some true := H
 have A6 := Aside0.mk A60
 clear A60
 have HC7 := Aside0.mk H
 clear H
 go_enter Tryd.func10, Tryd.ntmps10
 go_upto_if 24 with (first | ((with_reducible refine gate_callee (f := 12) rfl ?_); refine goesL_ (some 19) rfl rfl Tryd.func12 (by kernel_rfl) rfl #[.int .u8 a0, .int .u16 7, .int .u16 9, .int .u32 a1, .int .i32 5, .int .u8 a2, .int .u16 a3, .bool true] rfl (by (try simp only [List.map_toArray, List.map_cons, List.map_nil]); first | done | rfl | (simp only [List.length_drop, List.length_take]; rfl)) ?_; (with_reducible refine (paybooklaw12_at.calls k a0 7 9 a1 5 a2 a3 true t449 t450 t451 t452 t453 t454 t455 t456 _ A6.out).mono ?_); rintro e w8 ⟨rfl, hb⟩; refine ⟨_, rfl, ?_⟩; have n0_ := Aside0.mk (below_step (by repeat (first | (with_reducible first | exact HB.out | apply kL | apply kM | apply kE) | exact HB.out)) hb); clear HB; have HB := n0_; clear n0_; (try clear hb); (try clear hb2); (try clear hk); (try clear hi)) | ((with_reducible refine gate_dst (N := 11) rfl ?_); refine box_event ?hg (N := 11) ?hd (cs := #[.int .i64 0, .int .i64 0, .int .u8 0, .int .i64 0, .int .i64 0, .int .i64 0, .int .i64 0, .bool false]) (t := 25) ?hr ?_; (case hd => rfl); (case hg => rfl); (case hr => first | (go_simp; done) | (go_simp; rfl)); intro gb457 hg w9 hbox hb; have n0_ := Aside0.mk (below_step (by repeat (first | (with_reducible first | exact HB.out | apply kL | apply kM | apply kE) | exact HB.out)) hb); have n1_ := Aside0.mk (hbox); have n2_ := Aside0.mk ((by rw [hg]; exact (below_size (by repeat (first | (with_reducible first | exact HB.out | apply kL | apply kM | apply kE) | exact HB.out))) : w.heap.size ≤ gb457)); have n3_ := Aside0.mk ((by rw [hg]; exact (below_size (by repeat (first | (with_reducible first | exact HB.out | apply kL | apply kM | apply kE) | exact HB.out))) : w.heap.size ≤ gb457)); clear HB; have HB := n0_; have BK457 := n1_; have GW457 := n2_; have GE457 := n3_; clear n0_ n1_ n2_ n3_; clear hb hbox hg; have hcz10_0 : w9.cell? ⟨gb457, 0, none⟩ = some (.int .i64 0) := (kC BK457.out 0).trans rfl; have hcz10_1 : w9.cell? ⟨gb457, 1, none⟩ = some (.int .i64 0) := (kC BK457.out 1).trans rfl; have hcz10_2 : w9.cell? ⟨gb457, 2, none⟩ = some (.int .u8 0) := (kC BK457.out 2).trans rfl; have hcz10_3 : w9.cell? ⟨gb457, 3, none⟩ = some (.int .i64 0) := (kC BK457.out 3).trans rfl; have hcz10_4 : w9.cell? ⟨gb457, 4, none⟩ = some (.int .i64 0) := (kC BK457.out 4).trans rfl; have hcz10_5 : w9.cell? ⟨gb457, 5, none⟩ = some (.int .i64 0) := (kC BK457.out 5).trans rfl; have hcz10_6 : w9.cell? ⟨gb457, 6, none⟩ = some (.int .i64 0) := (kC BK457.out 6).trans rfl; have hcz10_7 : w9.cell? ⟨gb457, 7, none⟩ = some (.bool false) := (kC BK457.out 7).trans rfl; have hfz10_0 := kF BK457.out 0; have hfz10_1 := kF BK457.out 1; have hfz10_2 := kF BK457.out 2; have hfz10_3 := kF BK457.out 3; have hfz10_4 := kF BK457.out 4; have hfz10_5 := kF BK457.out 5; have hfz10_6 := kF BK457.out 6; have hfz10_7 := kF BK457.out 7) | ((with_reducible refine gate_dst (N := 20) rfl ?_); refine wpList_load_row rfl 25 (.tmp 11) rfl gb457 rfl 25 #[.int .i64 t449, .int .i64 t450, .int .u8 t451, .int .i64 t452, .int .i64 t453, .int .i64 t454, .int .i64 t455, .bool t456] (0, 0) _ (by (with_reducible repeat (first | refine kN ?_ _ | refine kD ?_ | refine kA ?_ _)); refine kP (cs := #[.int .i64 t449, .int .i64 t450, .int .u8 t451, .int .i64 t452, .int .i64 t453, .int .i64 t454, .int .i64 t455, .bool false]) ?_ 7 _ rfl; (with_reducible repeat (first | refine kN ?_ _ | refine kD ?_ | refine kA ?_ _)); refine kP (cs := #[.int .i64 t449, .int .i64 t450, .int .u8 t451, .int .i64 t452, .int .i64 t453, .int .i64 t454, .int .i64 0, .bool false]) ?_ 6 _ rfl; (with_reducible repeat (first | refine kN ?_ _ | refine kD ?_ | refine kA ?_ _)); refine kP (cs := #[.int .i64 t449, .int .i64 t450, .int .u8 t451, .int .i64 t452, .int .i64 t453, .int .i64 0, .int .i64 0, .bool false]) ?_ 5 _ rfl; (with_reducible repeat (first | refine kN ?_ _ | refine kD ?_ | refine kA ?_ _)); refine kP (cs := #[.int .i64 t449, .int .i64 t450, .int .u8 t451, .int .i64 t452, .int .i64 0, .int .i64 0, .int .i64 0, .bool false]) ?_ 4 _ rfl; (with_reducible repeat (first | refine kN ?_ _ | refine kD ?_ | refine kA ?_ _)); refine kP (cs := #[.int .i64 t449, .int .i64 t450, .int .u8 t451, .int .i64 0, .int .i64 0, .int .i64 0, .int .i64 0, .bool false]) ?_ 3 _ rfl; (with_reducible repeat (first | refine kN ?_ _ | refine kD ?_ | refine kA ?_ _)); refine kP (cs := #[.int .i64 t449, .int .i64 t450, .int .u8 0, .int .i64 0, .int .i64 0, .int .i64 0, .int .i64 0, .bool false]) ?_ 2 _ rfl; (with_reducible repeat (first | refine kN ?_ _ | refine kD ?_ | refine kA ?_ _)); refine kP (cs := #[.int .i64 t449, .int .i64 0, .int .u8 0, .int .i64 0, .int .i64 0, .int .i64 0, .int .i64 0, .bool false]) ?_ 1 _ rfl; (with_reducible repeat (first | refine kN ?_ _ | refine kD ?_ | refine kA ?_ _)); refine kP (cs := #[.int .i64 0, .int .i64 0, .int .u8 0, .int .i64 0, .int .i64 0, .int .i64 0, .int .i64 0, .bool false]) ?_ 0 _ rfl; (with_reducible repeat (first | refine kN ?_ _ | refine kD ?_ | refine kA ?_ _)); exact BK457.out) Tryd.underlying25 rfl (by kernel_rfl) ?_) | ((with_reducible refine gate_dst (N := 12) rfl ?_); refine box_event ?hg (N := 12) ?hd (cs := #[.int .i64 0, .int .i64 0, .int .u8 0, .int .i64 0, .int .i64 0, .int .i64 0, .int .i64 0, .bool false]) (t := 25) ?hr ?_; (case hd => rfl); (case hg => rfl); (case hr => first | (go_simp; done) | (go_simp; rfl)); intro gb458 hg w11 hbox hb; have n0_ := Aside0.mk (blk_below (g := gb457) (o := .cells #[.int .i64 t449, .int .i64 t450, .int .u8 t451, .int .i64 t452, .int .i64 t453, .int .i64 t454, .int .i64 t455, .bool t456] 25 (0, 0)) (by (with_reducible repeat (first | refine kN ?_ _ | refine kD ?_ | refine kA ?_ _)); refine kP (cs := #[.int .i64 t449, .int .i64 t450, .int .u8 t451, .int .i64 t452, .int .i64 t453, .int .i64 t454, .int .i64 t455, .bool false]) ?_ 7 _ rfl; (with_reducible repeat (first | refine kN ?_ _ | refine kD ?_ | refine kA ?_ _)); refine kP (cs := #[.int .i64 t449, .int .i64 t450, .int .u8 t451, .int .i64 t452, .int .i64 t453, .int .i64 t454, .int .i64 0, .bool false]) ?_ 6 _ rfl; (with_reducible repeat (first | refine kN ?_ _ | refine kD ?_ | refine kA ?_ _)); refine kP (cs := #[.int .i64 t449, .int .i64 t450, .int .u8 t451, .int .i64 t452, .int .i64 t453, .int .i64 0, .int .i64 0, .bool false]) ?_ 5 _ rfl; (with_reducible repeat (first | refine kN ?_ _ | refine kD ?_ | refine kA ?_ _)); refine kP (cs := #[.int .i64 t449, .int .i64 t450, .int .u8 t451, .int .i64 t452, .int .i64 0, .int .i64 0, .int .i64 0, .bool false]) ?_ 4 _ rfl; (with_reducible repeat (first | refine kN ?_ _ | refine kD ?_ | refine kA ?_ _)); refine kP (cs := #[.int .i64 t449, .int .i64 t450, .int .u8 t451, .int .i64 0, .int .i64 0, .int .i64 0, .int .i64 0, .bool false]) ?_ 3 _ rfl; (with_reducible repeat (first | refine kN ?_ _ | refine kD ?_ | refine kA ?_ _)); refine kP (cs := #[.int .i64 t449, .int .i64 t450, .int .u8 0, .int .i64 0, .int .i64 0, .int .i64 0, .int .i64 0, .bool false]) ?_ 2 _ rfl; (with_reducible repeat (first | refine kN ?_ _ | refine kD ?_ | refine kA ?_ _)); refine kP (cs := #[.int .i64 t449, .int .i64 0, .int .u8 0, .int .i64 0, .int .i64 0, .int .i64 0, .int .i64 0, .bool false]) ?_ 1 _ rfl; (with_reducible repeat (first | refine kN ?_ _ | refine kD ?_ | refine kA ?_ _)); refine kP (cs := #[.int .i64 0, .int .i64 0, .int .u8 0, .int .i64 0, .int .i64 0, .int .i64 0, .int .i64 0, .bool false]) ?_ 0 _ rfl; (with_reducible repeat (first | refine kN ?_ _ | refine kD ?_ | refine kA ?_ _)); exact BK457.out) hb); have n1_ := Aside0.mk (below_step (by repeat (first | (with_reducible first | exact HB.out | apply kL | apply kM | apply kE | refine kS ?_ GE457.out) | exact HB.out)) hb); have n2_ := Aside0.mk (hbox); have n3_ := Aside0.mk ((by rw [hg]; exact (below_size (by repeat (first | (with_reducible first | exact HB.out | apply kL | apply kM | apply kE | refine kS ?_ GE457.out) | exact HB.out))) : w.heap.size ≤ gb458)); have n4_ := Aside0.mk ((by rw [hg]; exact (below_size (by repeat (first | (with_reducible first | exact HB.out | apply kL | apply kM | apply kE | refine kS ?_ GE457.out) | exact HB.out))) : w.heap.size ≤ gb458)); have n5_ := Aside0.mk ((by rw [hg]; exact Nat.ne_of_lt (blk_lt (g := gb457) (o := .cells #[.int .i64 t449, .int .i64 t450, .int .u8 t451, .int .i64 t452, .int .i64 t453, .int .i64 t454, .int .i64 t455, .bool t456] 25 (0, 0)) (by (with_reducible repeat (first | refine kN ?_ _ | refine kD ?_ | refine kA ?_ _)); refine kP (cs := #[.int .i64 t449, .int .i64 t450, .int .u8 t451, .int .i64 t452, .int .i64 t453, .int .i64 t454, .int .i64 t455, .bool false]) ?_ 7 _ rfl; (with_reducible repeat (first | refine kN ?_ _ | refine kD ?_ | refine kA ?_ _)); refine kP (cs := #[.int .i64 t449, .int .i64 t450, .int .u8 t451, .int .i64 t452, .int .i64 t453, .int .i64 t454, .int .i64 0, .bool false]) ?_ 6 _ rfl; (with_reducible repeat (first | refine kN ?_ _ | refine kD ?_ | refine kA ?_ _)); refine kP (cs := #[.int .i64 t449, .int .i64 t450, .int .u8 t451, .int .i64 t452, .int .i64 t453, .int .i64 0, .int .i64 0, .bool false]) ?_ 5 _ rfl; (with_reducible repeat (first | refine kN ?_ _ | refine kD ?_ | refine kA ?_ _)); refine kP (cs := #[.int .i64 t449, .int .i64 t450, .int .u8 t451, .int .i64 t452, .int .i64 0, .int .i64 0, .int .i64 0, .bool false]) ?_ 4 _ rfl; (with_reducible repeat (first | refine kN ?_ _ | refine kD ?_ | refine kA ?_ _)); refine kP (cs := #[.int .i64 t449, .int .i64 t450, .int .u8 t451, .int .i64 0, .int .i64 0, .int .i64 0, .int .i64 0, .bool false]) ?_ 3 _ rfl; (with_reducible repeat (first | refine kN ?_ _ | refine kD ?_ | refine kA ?_ _)); refine kP (cs := #[.int .i64 t449, .int .i64 t450, .int .u8 0, .int .i64 0, .int .i64 0, .int .i64 0, .int .i64 0, .bool false]) ?_ 2 _ rfl; (with_reducible repeat (first | refine kN ?_ _ | refine kD ?_ | refine kA ?_ _)); refine kP (cs := #[.int .i64 t449, .int .i64 0, .int .u8 0, .int .i64 0, .int .i64 0, .int .i64 0, .int .i64 0, .bool false]) ?_ 1 _ rfl; (with_reducible repeat (first | refine kN ?_ _ | refine kD ?_ | refine kA ?_ _)); refine kP (cs := #[.int .i64 0, .int .i64 0, .int .u8 0, .int .i64 0, .int .i64 0, .int .i64 0, .int .i64 0, .bool false]) ?_ 0 _ rfl; (with_reducible repeat (first | refine kN ?_ _ | refine kD ?_ | refine kA ?_ _)); exact BK457.out)) : gb457 ≠ gb458)); have n6_ := Aside0.mk ((by rw [hg]; exact Nat.ne_of_gt (blk_lt (g := gb457) (o := .cells #[.int .i64 t449, .int .i64 t450, .int .u8 t451, .int .i64 t452, .int .i64 t453, .int .i64 t454, .int .i64 t455, .bool t456] 25 (0, 0)) (by (with_reducible repeat (first | refine kN ?_ _ | refine kD ?_ | refine kA ?_ _)); refine kP (cs := #[.int .i64 t449, .int .i64 t450, .int .u8 t451, .int .i64 t452, .int .i64 t453, .int .i64 t454, .int .i64 t455, .bool false]) ?_ 7 _ rfl; (with_reducible repeat (first | refine kN ?_ _ | refine kD ?_ | refine kA ?_ _)); refine kP (cs := #[.int .i64 t449, .int .i64 t450, .int .u8 t451, .int .i64 t452, .int .i64 t453, .int .i64 t454, .int .i64 0, .bool false]) ?_ 6 _ rfl; (with_reducible repeat (first | refine kN ?_ _ | refine kD ?_ | refine kA ?_ _)); refine kP (cs := #[.int .i64 t449, .int .i64 t450, .int .u8 t451, .int .i64 t452, .int .i64 t453, .int .i64 0, .int .i64 0, .bool false]) ?_ 5 _ rfl; (with_reducible repeat (first | refine kN ?_ _ | refine kD ?_ | refine kA ?_ _)); refine kP (cs := #[.int .i64 t449, .int .i64 t450, .int .u8 t451, .int .i64 t452, .int .i64 0, .int .i64 0, .int .i64 0, .bool false]) ?_ 4 _ rfl; (with_reducible repeat (first | refine kN ?_ _ | refine kD ?_ | refine kA ?_ _)); refine kP (cs := #[.int .i64 t449, .int .i64 t450, .int .u8 t451, .int .i64 0, .int .i64 0, .int .i64 0, .int .i64 0, .bool false]) ?_ 3 _ rfl; (with_reducible repeat (first | refine kN ?_ _ | refine kD ?_ | refine kA ?_ _)); refine kP (cs := #[.int .i64 t449, .int .i64 t450, .int .u8 0, .int .i64 0, .int .i64 0, .int .i64 0, .int .i64 0, .bool false]) ?_ 2 _ rfl; (with_reducible repeat (first | refine kN ?_ _ | refine kD ?_ | refine kA ?_ _)); refine kP (cs := #[.int .i64 t449, .int .i64 0, .int .u8 0, .int .i64 0, .int .i64 0, .int .i64 0, .int .i64 0, .bool false]) ?_ 1 _ rfl; (with_reducible repeat (first | refine kN ?_ _ | refine kD ?_ | refine kA ?_ _)); refine kP (cs := #[.int .i64 0, .int .i64 0, .int .u8 0, .int .i64 0, .int .i64 0, .int .i64 0, .int .i64 0, .bool false]) ?_ 0 _ rfl; (with_reducible repeat (first | refine kN ?_ _ | refine kD ?_ | refine kA ?_ _)); exact BK457.out)) : gb458 ≠ gb457)); clear BK457; clear HB; have BK457 := n0_; have HB := n1_; have BK458 := n2_; have GW458 := n3_; have GE458 := n4_; have NB457_458 := n5_; have NB458_457 := n6_; clear n0_ n1_ n2_ n3_ n4_ n5_ n6_; clear hb hbox hg; have hnb12 := NB458_457.out; have hnc12 := NB457_458.out; have hcz13_0 : w11.cell? ⟨gb458, 0, none⟩ = some (.int .i64 0) := (kC BK458.out 0).trans rfl; have hcz13_1 : w11.cell? ⟨gb458, 1, none⟩ = some (.int .i64 0) := (kC BK458.out 1).trans rfl; have hcz13_2 : w11.cell? ⟨gb458, 2, none⟩ = some (.int .u8 0) := (kC BK458.out 2).trans rfl; have hcz13_3 : w11.cell? ⟨gb458, 3, none⟩ = some (.int .i64 0) := (kC BK458.out 3).trans rfl; have hcz13_4 : w11.cell? ⟨gb458, 4, none⟩ = some (.int .i64 0) := (kC BK458.out 4).trans rfl; have hcz13_5 : w11.cell? ⟨gb458, 5, none⟩ = some (.int .i64 0) := (kC BK458.out 5).trans rfl; have hcz13_6 : w11.cell? ⟨gb458, 6, none⟩ = some (.int .i64 0) := (kC BK458.out 6).trans rfl; have hcz13_7 : w11.cell? ⟨gb458, 7, none⟩ = some (.bool false) := (kC BK458.out 7).trans rfl; have hfz13_0 := kF BK458.out 0; have hfz13_1 := kF BK458.out 1; have hfz13_2 := kF BK458.out 2; have hfz13_3 := kF BK458.out 3; have hfz13_4 := kF BK458.out 4; have hfz13_5 := kF BK458.out 5; have hfz13_6 := kF BK458.out 6; have hfz13_7 := kF BK458.out 7; have hcz14_0 : w11.cell? ⟨gb457, 0, none⟩ = some (.int .i64 t449) := (kC BK457.out 0).trans rfl; have hcz14_1 : w11.cell? ⟨gb457, 1, none⟩ = some (.int .i64 t450) := (kC BK457.out 1).trans rfl; have hcz14_2 : w11.cell? ⟨gb457, 2, none⟩ = some (.int .u8 t451) := (kC BK457.out 2).trans rfl; have hcz14_3 : w11.cell? ⟨gb457, 3, none⟩ = some (.int .i64 t452) := (kC BK457.out 3).trans rfl; have hcz14_4 : w11.cell? ⟨gb457, 4, none⟩ = some (.int .i64 t453) := (kC BK457.out 4).trans rfl; have hcz14_5 : w11.cell? ⟨gb457, 5, none⟩ = some (.int .i64 t454) := (kC BK457.out 5).trans rfl; have hcz14_6 : w11.cell? ⟨gb457, 6, none⟩ = some (.int .i64 t455) := (kC BK457.out 6).trans rfl; have hcz14_7 : w11.cell? ⟨gb457, 7, none⟩ = some (.bool t456) := (kC BK457.out 7).trans rfl; have hfz14_0 := kF BK457.out 0; have hfz14_1 := kF BK457.out 1; have hfz14_2 := kF BK457.out 2; have hfz14_3 := kF BK457.out 3; have hfz14_4 := kF BK457.out 4; have hfz14_5 := kF BK457.out 5; have hfz14_6 := kF BK457.out 6; have hfz14_7 := kF BK457.out 7) | ((with_reducible refine gate_dst (N := 21) rfl ?_); refine wpList_load_row rfl 25 (.tmp 11) rfl gb457 rfl 25 #[.int .i64 t449, .int .i64 t450, .int .u8 t451, .int .i64 t452, .int .i64 t453, .int .i64 t454, .int .i64 t455, .bool t456] (0, 0) _ (by (with_reducible repeat (first | refine kN ?_ _ | refine kD ?_ | refine kA ?_ _)); refine kR ?_ NB457_458.out _; (with_reducible repeat (first | refine kN ?_ _ | refine kD ?_ | refine kA ?_ _)); refine kR ?_ NB457_458.out _; (with_reducible repeat (first | refine kN ?_ _ | refine kD ?_ | refine kA ?_ _)); refine kR ?_ NB457_458.out _; (with_reducible repeat (first | refine kN ?_ _ | refine kD ?_ | refine kA ?_ _)); refine kR ?_ NB457_458.out _; (with_reducible repeat (first | refine kN ?_ _ | refine kD ?_ | refine kA ?_ _)); refine kR ?_ NB457_458.out _; (with_reducible repeat (first | refine kN ?_ _ | refine kD ?_ | refine kA ?_ _)); refine kR ?_ NB457_458.out _; (with_reducible repeat (first | refine kN ?_ _ | refine kD ?_ | refine kA ?_ _)); refine kR ?_ NB457_458.out _; (with_reducible repeat (first | refine kN ?_ _ | refine kD ?_ | refine kA ?_ _)); refine kR ?_ NB457_458.out _; (with_reducible repeat (first | refine kN ?_ _ | refine kD ?_ | refine kA ?_ _)); exact BK457.out) Tryd.underlying25 rfl (by kernel_rfl) ?_) | ((with_reducible refine gate_dst (N := 13) rfl ?_); refine box_event ?hg (N := 13) ?hd (cs := #[.int .i64 0, .int .i64 0, .int .u8 0, .int .i64 0, .int .i64 0, .int .i64 0, .int .i64 0, .bool false]) (t := 25) ?hr ?_; (case hd => rfl); (case hg => rfl); (case hr => first | (go_simp; done) | (go_simp; rfl)); intro gb459 hg w15 hbox hb; have n0_ := Aside0.mk (blk_below (g := gb457) (o := .cells #[.int .i64 t449, .int .i64 t450, .int .u8 t451, .int .i64 t452, .int .i64 t453, .int .i64 t454, .int .i64 t455, .bool t456] 25 (0, 0)) (by (with_reducible repeat (first | refine kN ?_ _ | refine kD ?_ | refine kA ?_ _)); refine kR ?_ NB457_458.out _; (with_reducible repeat (first | refine kN ?_ _ | refine kD ?_ | refine kA ?_ _)); refine kR ?_ NB457_458.out _; (with_reducible repeat (first | refine kN ?_ _ | refine kD ?_ | refine kA ?_ _)); refine kR ?_ NB457_458.out _; (with_reducible repeat (first | refine kN ?_ _ | refine kD ?_ | refine kA ?_ _)); refine kR ?_ NB457_458.out _; (with_reducible repeat (first | refine kN ?_ _ | refine kD ?_ | refine kA ?_ _)); refine kR ?_ NB457_458.out _; (with_reducible repeat (first | refine kN ?_ _ | refine kD ?_ | refine kA ?_ _)); refine kR ?_ NB457_458.out _; (with_reducible repeat (first | refine kN ?_ _ | refine kD ?_ | refine kA ?_ _)); refine kR ?_ NB457_458.out _; (with_reducible repeat (first | refine kN ?_ _ | refine kD ?_ | refine kA ?_ _)); refine kR ?_ NB457_458.out _; (with_reducible repeat (first | refine kN ?_ _ | refine kD ?_ | refine kA ?_ _)); exact BK457.out) hb); have n1_ := Aside0.mk (blk_below (g := gb458) (o := .cells #[.int .i64 t449, .int .i64 t450, .int .u8 t451, .int .i64 t452, .int .i64 t453, .int .i64 t454, .int .i64 t455, .bool t456] 25 (0, 0)) (by (with_reducible repeat (first | refine kN ?_ _ | refine kD ?_ | refine kA ?_ _)); refine kP (cs := #[.int .i64 t449, .int .i64 t450, .int .u8 t451, .int .i64 t452, .int .i64 t453, .int .i64 t454, .int .i64 t455, .bool false]) ?_ 7 _ rfl; (with_reducible repeat (first | refine kN ?_ _ | refine kD ?_ | refine kA ?_ _)); refine kP (cs := #[.int .i64 t449, .int .i64 t450, .int .u8 t451, .int .i64 t452, .int .i64 t453, .int .i64 t454, .int .i64 0, .bool false]) ?_ 6 _ rfl; (with_reducible repeat (first | refine kN ?_ _ | refine kD ?_ | refine kA ?_ _)); refine kP (cs := #[.int .i64 t449, .int .i64 t450, .int .u8 t451, .int .i64 t452, .int .i64 t453, .int .i64 0, .int .i64 0, .bool false]) ?_ 5 _ rfl; (with_reducible repeat (first | refine kN ?_ _ | refine kD ?_ | refine kA ?_ _)); refine kP (cs := #[.int .i64 t449, .int .i64 t450, .int .u8 t451, .int .i64 t452, .int .i64 0, .int .i64 0, .int .i64 0, .bool false]) ?_ 4 _ rfl; (with_reducible repeat (first | refine kN ?_ _ | refine kD ?_ | refine kA ?_ _)); refine kP (cs := #[.int .i64 t449, .int .i64 t450, .int .u8 t451, .int .i64 0, .int .i64 0, .int .i64 0, .int .i64 0, .bool false]) ?_ 3 _ rfl; (with_reducible repeat (first | refine kN ?_ _ | refine kD ?_ | refine kA ?_ _)); refine kP (cs := #[.int .i64 t449, .int .i64 t450, .int .u8 0, .int .i64 0, .int .i64 0, .int .i64 0, .int .i64 0, .bool false]) ?_ 2 _ rfl; (with_reducible repeat (first | refine kN ?_ _ | refine kD ?_ | refine kA ?_ _)); refine kP (cs := #[.int .i64 t449, .int .i64 0, .int .u8 0, .int .i64 0, .int .i64 0, .int .i64 0, .int .i64 0, .bool false]) ?_ 1 _ rfl; (with_reducible repeat (first | refine kN ?_ _ | refine kD ?_ | refine kA ?_ _)); refine kP (cs := #[.int .i64 0, .int .i64 0, .int .u8 0, .int .i64 0, .int .i64 0, .int .i64 0, .int .i64 0, .bool false]) ?_ 0 _ rfl; (with_reducible repeat (first | refine kN ?_ _ | refine kD ?_ | refine kA ?_ _)); exact BK458.out) hb); have n2_ := Aside0.mk (below_step (by repeat (first | (with_reducible first | exact HB.out | apply kL | apply kM | apply kE | refine kS ?_ GE457.out | refine kS ?_ GE458.out) | exact HB.out)) hb); have n3_ := Aside0.mk (hbox); have n4_ := Aside0.mk ((by rw [hg]; exact (below_size (by repeat (first | (with_reducible first | exact HB.out | apply kL | apply kM | apply kE | refine kS ?_ GE457.out | refine kS ?_ GE458.out) | exact HB.out))) : w.heap.size ≤ gb459)); have n5_ := Aside0.mk ((by rw [hg]; exact (below_size (by repeat (first | (with_reducible first | exact HB.out | apply kL | apply kM | apply kE | refine kS ?_ GE457.out | refine kS ?_ GE458.out) | exact HB.out))) : w.heap.size ≤ gb459)); have n6_ := Aside0.mk ((by rw [hg]; exact Nat.ne_of_lt (blk_lt (g := gb457) (o := .cells #[.int .i64 t449, .int .i64 t450, .int .u8 t451, .int .i64 t452, .int .i64 t453, .int .i64 t454, .int .i64 t455, .bool t456] 25 (0, 0)) (by (with_reducible repeat (first | refine kN ?_ _ | refine kD ?_ | refine kA ?_ _)); refine kR ?_ NB457_458.out _; (with_reducible repeat (first | refine kN ?_ _ | refine kD ?_ | refine kA ?_ _)); refine kR ?_ NB457_458.out _; (with_reducible repeat (first | refine kN ?_ _ | refine kD ?_ | refine kA ?_ _)); refine kR ?_ NB457_458.out _; (with_reducible repeat (first | refine kN ?_ _ | refine kD ?_ | refine kA ?_ _)); refine kR ?_ NB457_458.out _; (with_reducible repeat (first | refine kN ?_ _ | refine kD ?_ | refine kA ?_ _)); refine kR ?_ NB457_458.out _; (with_reducible repeat (first | refine kN ?_ _ | refine kD ?_ | refine kA ?_ _)); refine kR ?_ NB457_458.out _; (with_reducible repeat (first | refine kN ?_ _ | refine kD ?_ | refine kA ?_ _)); refine kR ?_ NB457_458.out _; (with_reducible repeat (first | refine kN ?_ _ | refine kD ?_ | refine kA ?_ _)); refine kR ?_ NB457_458.out _; (with_reducible repeat (first | refine kN ?_ _ | refine kD ?_ | refine kA ?_ _)); exact BK457.out)) : gb457 ≠ gb459)); have n7_ := Aside0.mk ((by rw [hg]; exact Nat.ne_of_gt (blk_lt (g := gb457) (o := .cells #[.int .i64 t449, .int .i64 t450, .int .u8 t451, .int .i64 t452, .int .i64 t453, .int .i64 t454, .int .i64 t455, .bool t456] 25 (0, 0)) (by (with_reducible repeat (first | refine kN ?_ _ | refine kD ?_ | refine kA ?_ _)); refine kR ?_ NB457_458.out _; (with_reducible repeat (first | refine kN ?_ _ | refine kD ?_ | refine kA ?_ _)); refine kR ?_ NB457_458.out _; (with_reducible repeat (first | refine kN ?_ _ | refine kD ?_ | refine kA ?_ _)); refine kR ?_ NB457_458.out _; (with_reducible repeat (first | refine kN ?_ _ | refine kD ?_ | refine kA ?_ _)); refine kR ?_ NB457_458.out _; (with_reducible repeat (first | refine kN ?_ _ | refine kD ?_ | refine kA ?_ _)); refine kR ?_ NB457_458.out _; (with_reducible repeat (first | refine kN ?_ _ | refine kD ?_ | refine kA ?_ _)); refine kR ?_ NB457_458.out _; (with_reducible repeat (first | refine kN ?_ _ | refine kD ?_ | refine kA ?_ _)); refine kR ?_ NB457_458.out _; (with_reducible repeat (first | refine kN ?_ _ | refine kD ?_ | refine kA ?_ _)); refine kR ?_ NB457_458.out _; (with_reducible repeat (first | refine kN ?_ _ | refine kD ?_ | refine kA ?_ _)); exact BK457.out)) : gb459 ≠ gb457)); have n8_ := Aside0.mk ((by rw [hg]; exact Nat.ne_of_lt (blk_lt (g := gb458) (o := .cells #[.int .i64 t449, .int .i64 t450, .int .u8 t451, .int .i64 t452, .int .i64 t453, .int .i64 t454, .int .i64 t455, .bool t456] 25 (0, 0)) (by (with_reducible repeat (first | refine kN ?_ _ | refine kD ?_ | refine kA ?_ _)); refine kP (cs := #[.int .i64 t449, .int .i64 t450, .int .u8 t451, .int .i64 t452, .int .i64 t453, .int .i64 t454, .int .i64 t455, .bool false]) ?_ 7 _ rfl; (with_reducible repeat (first | refine kN ?_ _ | refine kD ?_ | refine kA ?_ _)); refine kP (cs := #[.int .i64 t449, .int .i64 t450, .int .u8 t451, .int .i64 t452, .int .i64 t453, .int .i64 t454, .int .i64 0, .bool false]) ?_ 6 _ rfl; (with_reducible repeat (first | refine kN ?_ _ | refine kD ?_ | refine kA ?_ _)); refine kP (cs := #[.int .i64 t449, .int .i64 t450, .int .u8 t451, .int .i64 t452, .int .i64 t453, .int .i64 0, .int .i64 0, .bool false]) ?_ 5 _ rfl; (with_reducible repeat (first | refine kN ?_ _ | refine kD ?_ | refine kA ?_ _)); refine kP (cs := #[.int .i64 t449, .int .i64 t450, .int .u8 t451, .int .i64 t452, .int .i64 0, .int .i64 0, .int .i64 0, .bool false]) ?_ 4 _ rfl; (with_reducible repeat (first | refine kN ?_ _ | refine kD ?_ | refine kA ?_ _)); refine kP (cs := #[.int .i64 t449, .int .i64 t450, .int .u8 t451, .int .i64 0, .int .i64 0, .int .i64 0, .int .i64 0, .bool false]) ?_ 3 _ rfl; (with_reducible repeat (first | refine kN ?_ _ | refine kD ?_ | refine kA ?_ _)); refine kP (cs := #[.int .i64 t449, .int .i64 t450, .int .u8 0, .int .i64 0, .int .i64 0, .int .i64 0, .int .i64 0, .bool false]) ?_ 2 _ rfl; (with_reducible repeat (first | refine kN ?_ _ | refine kD ?_ | refine kA ?_ _)); refine kP (cs := #[.int .i64 t449, .int .i64 0, .int .u8 0, .int .i64 0, .int .i64 0, .int .i64 0, .int .i64 0, .bool false]) ?_ 1 _ rfl; (with_reducible repeat (first | refine kN ?_ _ | refine kD ?_ | refine kA ?_ _)); refine kP (cs := #[.int .i64 0, .int .i64 0, .int .u8 0, .int .i64 0, .int .i64 0, .int .i64 0, .int .i64 0, .bool false]) ?_ 0 _ rfl; (with_reducible repeat (first | refine kN ?_ _ | refine kD ?_ | refine kA ?_ _)); exact BK458.out)) : gb458 ≠ gb459)); have n9_ := Aside0.mk ((by rw [hg]; exact Nat.ne_of_gt (blk_lt (g := gb458) (o := .cells #[.int .i64 t449, .int .i64 t450, .int .u8 t451, .int .i64 t452, .int .i64 t453, .int .i64 t454, .int .i64 t455, .bool t456] 25 (0, 0)) (by (with_reducible repeat (first | refine kN ?_ _ | refine kD ?_ | refine kA ?_ _)); refine kP (cs := #[.int .i64 t449, .int .i64 t450, .int .u8 t451, .int .i64 t452, .int .i64 t453, .int .i64 t454, .int .i64 t455, .bool false]) ?_ 7 _ rfl; (with_reducible repeat (first | refine kN ?_ _ | refine kD ?_ | refine kA ?_ _)); refine kP (cs := #[.int .i64 t449, .int .i64 t450, .int .u8 t451, .int .i64 t452, .int .i64 t453, .int .i64 t454, .int .i64 0, .bool false]) ?_ 6 _ rfl; (with_reducible repeat (first | refine kN ?_ _ | refine kD ?_ | refine kA ?_ _)); refine kP (cs := #[.int .i64 t449, .int .i64 t450, .int .u8 t451, .int .i64 t452, .int .i64 t453, .int .i64 0, .int .i64 0, .bool false]) ?_ 5 _ rfl; (with_reducible repeat (first | refine kN ?_ _ | refine kD ?_ | refine kA ?_ _)); refine kP (cs := #[.int .i64 t449, .int .i64 t450, .int .u8 t451, .int .i64 t452, .int .i64 0, .int .i64 0, .int .i64 0, .bool false]) ?_ 4 _ rfl; (with_reducible repeat (first | refine kN ?_ _ | refine kD ?_ | refine kA ?_ _)); refine kP (cs := #[.int .i64 t449, .int .i64 t450, .int .u8 t451, .int .i64 0, .int .i64 0, .int .i64 0, .int .i64 0, .bool false]) ?_ 3 _ rfl; (with_reducible repeat (first | refine kN ?_ _ | refine kD ?_ | refine kA ?_ _)); refine kP (cs := #[.int .i64 t449, .int .i64 t450, .int .u8 0, .int .i64 0, .int .i64 0, .int .i64 0, .int .i64 0, .bool false]) ?_ 2 _ rfl; (with_reducible repeat (first | refine kN ?_ _ | refine kD ?_ | refine kA ?_ _)); refine kP (cs := #[.int .i64 t449, .int .i64 0, .int .u8 0, .int .i64 0, .int .i64 0, .int .i64 0, .int .i64 0, .bool false]) ?_ 1 _ rfl; (with_reducible repeat (first | refine kN ?_ _ | refine kD ?_ | refine kA ?_ _)); refine kP (cs := #[.int .i64 0, .int .i64 0, .int .u8 0, .int .i64 0, .int .i64 0, .int .i64 0, .int .i64 0, .bool false]) ?_ 0 _ rfl; (with_reducible repeat (first | refine kN ?_ _ | refine kD ?_ | refine kA ?_ _)); exact BK458.out)) : gb459 ≠ gb458)); clear BK457; clear BK458; clear HB; have BK457 := n0_; have BK458 := n1_; have HB := n2_; have BK459 := n3_; have GW459 := n4_; have GE459 := n5_; have NB457_459 := n6_; have NB459_457 := n7_; have NB458_459 := n8_; have NB459_458 := n9_; clear n0_ n1_ n2_ n3_ n4_ n5_ n6_ n7_ n8_ n9_; clear hb hbox hg; have hnb16 := NB459_457.out; have hnc16 := NB457_459.out; have hnb17 := NB459_458.out; have hnc17 := NB458_459.out; have hcz18_0 : w15.cell? ⟨gb459, 0, none⟩ = some (.int .i64 0) := (kC BK459.out 0).trans rfl; have hcz18_1 : w15.cell? ⟨gb459, 1, none⟩ = some (.int .i64 0) := (kC BK459.out 1).trans rfl; have hcz18_2 : w15.cell? ⟨gb459, 2, none⟩ = some (.int .u8 0) := (kC BK459.out 2).trans rfl; have hcz18_3 : w15.cell? ⟨gb459, 3, none⟩ = some (.int .i64 0) := (kC BK459.out 3).trans rfl; have hcz18_4 : w15.cell? ⟨gb459, 4, none⟩ = some (.int .i64 0) := (kC BK459.out 4).trans rfl; have hcz18_5 : w15.cell? ⟨gb459, 5, none⟩ = some (.int .i64 0) := (kC BK459.out 5).trans rfl; have hcz18_6 : w15.cell? ⟨gb459, 6, none⟩ = some (.int .i64 0) := (kC BK459.out 6).trans rfl; have hcz18_7 : w15.cell? ⟨gb459, 7, none⟩ = some (.bool false) := (kC BK459.out 7).trans rfl; have hfz18_0 := kF BK459.out 0; have hfz18_1 := kF BK459.out 1; have hfz18_2 := kF BK459.out 2; have hfz18_3 := kF BK459.out 3; have hfz18_4 := kF BK459.out 4; have hfz18_5 := kF BK459.out 5; have hfz18_6 := kF BK459.out 6; have hfz18_7 := kF BK459.out 7; have hcz19_0 : w15.cell? ⟨gb457, 0, none⟩ = some (.int .i64 t449) := (kC BK457.out 0).trans rfl; have hcz19_1 : w15.cell? ⟨gb457, 1, none⟩ = some (.int .i64 t450) := (kC BK457.out 1).trans rfl; have hcz19_2 : w15.cell? ⟨gb457, 2, none⟩ = some (.int .u8 t451) := (kC BK457.out 2).trans rfl; have hcz19_3 : w15.cell? ⟨gb457, 3, none⟩ = some (.int .i64 t452) := (kC BK457.out 3).trans rfl; have hcz19_4 : w15.cell? ⟨gb457, 4, none⟩ = some (.int .i64 t453) := (kC BK457.out 4).trans rfl; have hcz19_5 : w15.cell? ⟨gb457, 5, none⟩ = some (.int .i64 t454) := (kC BK457.out 5).trans rfl; have hcz19_6 : w15.cell? ⟨gb457, 6, none⟩ = some (.int .i64 t455) := (kC BK457.out 6).trans rfl; have hcz19_7 : w15.cell? ⟨gb457, 7, none⟩ = some (.bool t456) := (kC BK457.out 7).trans rfl; have hfz19_0 := kF BK457.out 0; have hfz19_1 := kF BK457.out 1; have hfz19_2 := kF BK457.out 2; have hfz19_3 := kF BK457.out 3; have hfz19_4 := kF BK457.out 4; have hfz19_5 := kF BK457.out 5; have hfz19_6 := kF BK457.out 6; have hfz19_7 := kF BK457.out 7))
 (try simp only [Act.put, List.setIfInBounds_toArray, List.set_cons_zero, List.set_cons_succ])
 go_cut [] (fun wc => ∃ (kq : Nat) (x459002_6 : Int) (x459005_6 : Int) (x459006_6 : Int) (x460002_6 : Int) (x460006_6 : Int), Aside0 (paybooklaw12_CycleWakes.j0 kq a4 t449 t450 t451 t452 t453 t454 t455 t456 t449 t450 x459002_6 t452 t453 x459005_6 x459006_6 t456 t449 t450 x460002_6 t452 t453 t454 x460006_6 t456 = some true) ∧ Aside0 (kq ≤ k) ∧ Aside0 (wc.heap[gb457]? = some (.cells #[.int .i64 t449, .int .i64 t450, .int .u8 t451, .int .i64 t452, .int .i64 t453, .int .i64 t454, .int .i64 t455, .bool t456] 25 (0, 0))) ∧ Aside0 (wc.heap[gb458]? = some (.cells #[.int .i64 t449, .int .i64 t450, .int .u8 x459002_6, .int .i64 t452, .int .i64 t453, .int .i64 x459005_6, .int .i64 x459006_6, .bool t456] 25 (0, 0))) ∧ Aside0 (wc.heap[gb459]? = some (.cells #[.int .i64 t449, .int .i64 t450, .int .u8 x460002_6, .int .i64 t452, .int .i64 t453, .int .i64 t454, .int .i64 x460006_6, .bool t456] 25 (0, 0))) ∧ Aside0 (Below w.heap.size w wc))
 case first =>
  have H := HC7.out
  clear HC7
  by_cases c20 : t451 = 2
  ·rw [if_pos c20] at H
   have c20b0 : (t451 == 2) = true := beq_iff_eq.mpr c20
   have c20b1 : (t451 != 2) = false := bne_eq_false_iff_eq.mpr c20
   clear c20
   (first | (generalize hg_ : (t451 == 2) = bg_ at *; subst c20b0; have c20b0 := hg_; clear hg_) | rw [c20b0] | (simp only [i64_w, i32_w]; rw [c20b0]) | skip)
   have H' := Aside0.mk H
   clear H
   have hnb21 := NB458_457.out
   have hnc21 := NB457_458.out
   have hnb22 := NB458_459.out
   have hnc22 := NB459_458.out
   have hcz23_0 : w15.cell? ⟨gb458, 0, none⟩ = some (.int .i64 t449) := (kC BK458.out 0).trans rfl
   have hcz23_1 : w15.cell? ⟨gb458, 1, none⟩ = some (.int .i64 t450) := (kC BK458.out 1).trans rfl
   have hcz23_2 : w15.cell? ⟨gb458, 2, none⟩ = some (.int .u8 t451) := (kC BK458.out 2).trans rfl
   have hcz23_3 : w15.cell? ⟨gb458, 3, none⟩ = some (.int .i64 t452) := (kC BK458.out 3).trans rfl
   have hcz23_4 : w15.cell? ⟨gb458, 4, none⟩ = some (.int .i64 t453) := (kC BK458.out 4).trans rfl
   have hcz23_5 : w15.cell? ⟨gb458, 5, none⟩ = some (.int .i64 t454) := (kC BK458.out 5).trans rfl
   have hcz23_6 : w15.cell? ⟨gb458, 6, none⟩ = some (.int .i64 t455) := (kC BK458.out 6).trans rfl
   have hcz23_7 : w15.cell? ⟨gb458, 7, none⟩ = some (.bool t456) := (kC BK458.out 7).trans rfl
   have hfz23_0 := kF BK458.out 0
   have hfz23_1 := kF BK458.out 1
   have hfz23_2 := kF BK458.out 2
   have hfz23_3 := kF BK458.out 3
   have hfz23_4 := kF BK458.out 4
   have hfz23_5 := kF BK458.out 5
   have hfz23_6 := kF BK458.out 6
   have hfz23_7 := kF BK458.out 7
   go_wp2_with (first | ((with_reducible refine gate_store (t := 3) (p := 26) rfl ?_); refine store_event (t := 3) (p := 26) (v := ?vo_w24) (w1 := ((((((((((w15.setCell ⟨gb459, 0, none⟩ (.int .i64 t449)).setCell ⟨gb459, 1, none⟩ (.int .i64 t450)).setCell ⟨gb459, 2, none⟩ (.int .u8 t451)).setCell ⟨gb459, 3, none⟩ (.int .i64 t452)).setCell ⟨gb459, 4, none⟩ (.int .i64 t453)).setCell ⟨gb459, 5, none⟩ (.int .i64 t454)).setCell ⟨gb459, 6, none⟩ (.int .i64 t455)).setCell ⟨gb459, 7, none⟩ (.bool t456)).setCell ⟨gb458, 2, none⟩ (.int .u8 1)).setCell ⟨gb458, 6, none⟩ (.int .i64 0))) ?hg ?ho ?hn ?hr ?_; (case ho => rfl); (case hg => rfl); (case hn => rfl); (case hr => first | (go_simp; done) | (go_simp; rfl)); intro w24 hw; have n0_ : Aside0 (w24.heap[gb457]? = some (.cells #[.int .i64 t449, .int .i64 t450, .int .u8 t451, .int .i64 t452, .int .i64 t453, .int .i64 t454, .int .i64 t455, .bool t456] 25 (0, 0))) := ⟨(by rw [hw]; exact (by (with_reducible repeat (first | refine kN ?_ _ | refine kD ?_ | refine kA ?_ _)); refine kR ?_ NB457_458.out _; (with_reducible repeat (first | refine kN ?_ _ | refine kD ?_ | refine kA ?_ _)); refine kR ?_ NB457_458.out _; (with_reducible repeat (first | refine kN ?_ _ | refine kD ?_ | refine kA ?_ _)); refine kR ?_ NB457_459.out _; (with_reducible repeat (first | refine kN ?_ _ | refine kD ?_ | refine kA ?_ _)); refine kR ?_ NB457_459.out _; (with_reducible repeat (first | refine kN ?_ _ | refine kD ?_ | refine kA ?_ _)); refine kR ?_ NB457_459.out _; (with_reducible repeat (first | refine kN ?_ _ | refine kD ?_ | refine kA ?_ _)); refine kR ?_ NB457_459.out _; (with_reducible repeat (first | refine kN ?_ _ | refine kD ?_ | refine kA ?_ _)); refine kR ?_ NB457_459.out _; (with_reducible repeat (first | refine kN ?_ _ | refine kD ?_ | refine kA ?_ _)); refine kR ?_ NB457_459.out _; (with_reducible repeat (first | refine kN ?_ _ | refine kD ?_ | refine kA ?_ _)); refine kR ?_ NB457_459.out _; (with_reducible repeat (first | refine kN ?_ _ | refine kD ?_ | refine kA ?_ _)); refine kR ?_ NB457_459.out _; (with_reducible repeat (first | refine kN ?_ _ | refine kD ?_ | refine kA ?_ _)); exact BK457.out))⟩; have n1_ : Aside0 (w24.heap[gb458]? = some (.cells #[.int .i64 t449, .int .i64 t450, .int .u8 1, .int .i64 t452, .int .i64 t453, .int .i64 t454, .int .i64 0, .bool t456] 25 (0, 0))) := ⟨(by rw [hw]; exact (by (with_reducible repeat (first | refine kN ?_ _ | refine kD ?_ | refine kA ?_ _)); refine kP (cs := #[.int .i64 t449, .int .i64 t450, .int .u8 1, .int .i64 t452, .int .i64 t453, .int .i64 t454, .int .i64 t455, .bool t456]) ?_ 6 _ rfl; (with_reducible repeat (first | refine kN ?_ _ | refine kD ?_ | refine kA ?_ _)); refine kP (cs := #[.int .i64 t449, .int .i64 t450, .int .u8 t451, .int .i64 t452, .int .i64 t453, .int .i64 t454, .int .i64 t455, .bool t456]) ?_ 2 _ rfl; (with_reducible repeat (first | refine kN ?_ _ | refine kD ?_ | refine kA ?_ _)); refine kR ?_ NB458_459.out _; (with_reducible repeat (first | refine kN ?_ _ | refine kD ?_ | refine kA ?_ _)); refine kR ?_ NB458_459.out _; (with_reducible repeat (first | refine kN ?_ _ | refine kD ?_ | refine kA ?_ _)); refine kR ?_ NB458_459.out _; (with_reducible repeat (first | refine kN ?_ _ | refine kD ?_ | refine kA ?_ _)); refine kR ?_ NB458_459.out _; (with_reducible repeat (first | refine kN ?_ _ | refine kD ?_ | refine kA ?_ _)); refine kR ?_ NB458_459.out _; (with_reducible repeat (first | refine kN ?_ _ | refine kD ?_ | refine kA ?_ _)); refine kR ?_ NB458_459.out _; (with_reducible repeat (first | refine kN ?_ _ | refine kD ?_ | refine kA ?_ _)); refine kR ?_ NB458_459.out _; (with_reducible repeat (first | refine kN ?_ _ | refine kD ?_ | refine kA ?_ _)); refine kR ?_ NB458_459.out _; (with_reducible repeat (first | refine kN ?_ _ | refine kD ?_ | refine kA ?_ _)); exact BK458.out))⟩; have n2_ : Aside0 (w24.heap[gb459]? = some (.cells #[.int .i64 t449, .int .i64 t450, .int .u8 t451, .int .i64 t452, .int .i64 t453, .int .i64 t454, .int .i64 t455, .bool t456] 25 (0, 0))) := ⟨(by rw [hw]; exact (by (with_reducible repeat (first | refine kN ?_ _ | refine kD ?_ | refine kA ?_ _)); refine kR ?_ NB459_458.out _; (with_reducible repeat (first | refine kN ?_ _ | refine kD ?_ | refine kA ?_ _)); refine kR ?_ NB459_458.out _; (with_reducible repeat (first | refine kN ?_ _ | refine kD ?_ | refine kA ?_ _)); refine kP (cs := #[.int .i64 t449, .int .i64 t450, .int .u8 t451, .int .i64 t452, .int .i64 t453, .int .i64 t454, .int .i64 t455, .bool false]) ?_ 7 _ rfl; (with_reducible repeat (first | refine kN ?_ _ | refine kD ?_ | refine kA ?_ _)); refine kP (cs := #[.int .i64 t449, .int .i64 t450, .int .u8 t451, .int .i64 t452, .int .i64 t453, .int .i64 t454, .int .i64 0, .bool false]) ?_ 6 _ rfl; (with_reducible repeat (first | refine kN ?_ _ | refine kD ?_ | refine kA ?_ _)); refine kP (cs := #[.int .i64 t449, .int .i64 t450, .int .u8 t451, .int .i64 t452, .int .i64 t453, .int .i64 0, .int .i64 0, .bool false]) ?_ 5 _ rfl; (with_reducible repeat (first | refine kN ?_ _ | refine kD ?_ | refine kA ?_ _)); refine kP (cs := #[.int .i64 t449, .int .i64 t450, .int .u8 t451, .int .i64 t452, .int .i64 0, .int .i64 0, .int .i64 0, .bool false]) ?_ 4 _ rfl; (with_reducible repeat (first | refine kN ?_ _ | refine kD ?_ | refine kA ?_ _)); refine kP (cs := #[.int .i64 t449, .int .i64 t450, .int .u8 t451, .int .i64 0, .int .i64 0, .int .i64 0, .int .i64 0, .bool false]) ?_ 3 _ rfl; (with_reducible repeat (first | refine kN ?_ _ | refine kD ?_ | refine kA ?_ _)); refine kP (cs := #[.int .i64 t449, .int .i64 t450, .int .u8 0, .int .i64 0, .int .i64 0, .int .i64 0, .int .i64 0, .bool false]) ?_ 2 _ rfl; (with_reducible repeat (first | refine kN ?_ _ | refine kD ?_ | refine kA ?_ _)); refine kP (cs := #[.int .i64 t449, .int .i64 0, .int .u8 0, .int .i64 0, .int .i64 0, .int .i64 0, .int .i64 0, .bool false]) ?_ 1 _ rfl; (with_reducible repeat (first | refine kN ?_ _ | refine kD ?_ | refine kA ?_ _)); refine kP (cs := #[.int .i64 0, .int .i64 0, .int .u8 0, .int .i64 0, .int .i64 0, .int .i64 0, .int .i64 0, .bool false]) ?_ 0 _ rfl; (with_reducible repeat (first | refine kN ?_ _ | refine kD ?_ | refine kA ?_ _)); exact BK459.out))⟩; have n3_ : Aside0 (Below w.heap.size w w24) := ⟨(by rw [hw]; exact (by repeat (first | (with_reducible first | exact HB.out | apply kL | apply kM | apply kE | refine kS ?_ GE457.out | refine kS ?_ GE458.out | refine kS ?_ GE459.out) | exact HB.out)))⟩; clear hw; clear BK457; clear BK458; clear BK459; clear HB; have BK457 := n0_; have BK458 := n1_; have BK459 := n2_; have HB := n3_; clear n0_ n1_ n2_ n3_; have hcz25_0 : w24.cell? ⟨gb458, 0, none⟩ = some (.int .i64 t449) := (kC BK458.out 0).trans rfl; have hcz25_1 : w24.cell? ⟨gb458, 1, none⟩ = some (.int .i64 t450) := (kC BK458.out 1).trans rfl; have hcz25_2 : w24.cell? ⟨gb458, 2, none⟩ = some (.int .u8 1) := (kC BK458.out 2).trans rfl; have hcz25_3 : w24.cell? ⟨gb458, 3, none⟩ = some (.int .i64 t452) := (kC BK458.out 3).trans rfl; have hcz25_4 : w24.cell? ⟨gb458, 4, none⟩ = some (.int .i64 t453) := (kC BK458.out 4).trans rfl; have hcz25_5 : w24.cell? ⟨gb458, 5, none⟩ = some (.int .i64 t454) := (kC BK458.out 5).trans rfl; have hcz25_6 : w24.cell? ⟨gb458, 6, none⟩ = some (.int .i64 0) := (kC BK458.out 6).trans rfl; have hcz25_7 : w24.cell? ⟨gb458, 7, none⟩ = some (.bool t456) := (kC BK458.out 7).trans rfl; have hfz25_0 := kF BK458.out 0; have hfz25_1 := kF BK458.out 1; have hfz25_2 := kF BK458.out 2; have hfz25_3 := kF BK458.out 3; have hfz25_4 := kF BK458.out 4; have hfz25_5 := kF BK458.out 5; have hfz25_6 := kF BK458.out 6; have hfz25_7 := kF BK458.out 7; have hnb26 := NB459_457.out; have hnc26 := NB457_459.out; have hcz27_0 : w24.cell? ⟨gb459, 0, none⟩ = some (.int .i64 t449) := (kC BK459.out 0).trans rfl; have hcz27_1 : w24.cell? ⟨gb459, 1, none⟩ = some (.int .i64 t450) := (kC BK459.out 1).trans rfl; have hcz27_2 : w24.cell? ⟨gb459, 2, none⟩ = some (.int .u8 t451) := (kC BK459.out 2).trans rfl; have hcz27_3 : w24.cell? ⟨gb459, 3, none⟩ = some (.int .i64 t452) := (kC BK459.out 3).trans rfl; have hcz27_4 : w24.cell? ⟨gb459, 4, none⟩ = some (.int .i64 t453) := (kC BK459.out 4).trans rfl; have hcz27_5 : w24.cell? ⟨gb459, 5, none⟩ = some (.int .i64 t454) := (kC BK459.out 5).trans rfl; have hcz27_6 : w24.cell? ⟨gb459, 6, none⟩ = some (.int .i64 t455) := (kC BK459.out 6).trans rfl; have hcz27_7 : w24.cell? ⟨gb459, 7, none⟩ = some (.bool t456) := (kC BK459.out 7).trans rfl; have hfz27_0 := kF BK459.out 0; have hfz27_1 := kF BK459.out 1; have hfz27_2 := kF BK459.out 2; have hfz27_3 := kF BK459.out 3; have hfz27_4 := kF BK459.out 4; have hfz27_5 := kF BK459.out 5; have hfz27_6 := kF BK459.out 6; have hfz27_7 := kF BK459.out 7))
   go_meet
   case rel => exact ⟨_, (1), (wrap64 (t454 + 1)), (0), (8), (0), H', ⟨by first | omega | exact Nat.le_refl _⟩, ⟨by (with_reducible repeat (first | refine kN ?_ _ | refine kD ?_ | refine kA ?_ _)); refine kR ?_ NB457_459.out _; (with_reducible repeat (first | refine kN ?_ _ | refine kD ?_ | refine kA ?_ _)); refine kR ?_ NB457_459.out _; (with_reducible repeat (first | refine kN ?_ _ | refine kD ?_ | refine kA ?_ _)); refine kR ?_ NB457_458.out _; (with_reducible repeat (first | refine kN ?_ _ | refine kD ?_ | refine kA ?_ _)); exact BK457.out⟩, ⟨by (with_reducible repeat (first | refine kN ?_ _ | refine kD ?_ | refine kA ?_ _)); refine kR ?_ NB458_459.out _; (with_reducible repeat (first | refine kN ?_ _ | refine kD ?_ | refine kA ?_ _)); refine kR ?_ NB458_459.out _; (with_reducible repeat (first | refine kN ?_ _ | refine kD ?_ | refine kA ?_ _)); refine kP (cs := #[.int .i64 t449, .int .i64 t450, .int .u8 1, .int .i64 t452, .int .i64 t453, .int .i64 t454, .int .i64 0, .bool t456]) ?_ 5 _ rfl; (with_reducible repeat (first | refine kN ?_ _ | refine kD ?_ | refine kA ?_ _)); exact BK458.out⟩, ⟨by (with_reducible repeat (first | refine kN ?_ _ | refine kD ?_ | refine kA ?_ _)); refine kP (cs := #[.int .i64 t449, .int .i64 t450, .int .u8 8, .int .i64 t452, .int .i64 t453, .int .i64 t454, .int .i64 t455, .bool t456]) ?_ 6 _ rfl; (with_reducible repeat (first | refine kN ?_ _ | refine kD ?_ | refine kA ?_ _)); refine kP (cs := #[.int .i64 t449, .int .i64 t450, .int .u8 t451, .int .i64 t452, .int .i64 t453, .int .i64 t454, .int .i64 t455, .bool t456]) ?_ 2 _ rfl; (with_reducible repeat (first | refine kN ?_ _ | refine kD ?_ | refine kA ?_ _)); refine kR ?_ NB459_458.out _; (with_reducible repeat (first | refine kN ?_ _ | refine kD ?_ | refine kA ?_ _)); exact BK459.out⟩, ⟨by repeat (first | (with_reducible first | exact HB.out | apply kL | apply kM | apply kE | refine kS ?_ GE457.out | refine kS ?_ GE458.out | refine kS ?_ GE459.out) | exact HB.out)⟩⟩
  ·rw [if_neg c20] at H
   have c20b0 : (t451 == 2) = false := beq_eq_false_iff_ne.mpr c20
   have c20b1 : (t451 != 2) = true := bne_iff_ne.mpr c20
   (first | (generalize hg_ : (t451 == 2) = bg_ at *; subst c20b0; have c20b0 := hg_; clear hg_) | rw [c20b0] | (simp only [i64_w, i32_w]; rw [c20b0]) | skip)
   have H' := Aside0.mk H
   clear H
   go_wp2
   go_meet
   case rel => exact ⟨_, (t451), (t454), (t455), (t451), (t455), H', ⟨by first | omega | exact Nat.le_refl _⟩, ⟨by (with_reducible repeat (first | refine kN ?_ _ | refine kD ?_ | refine kA ?_ _)); refine kR ?_ NB457_459.out _; (with_reducible repeat (first | refine kN ?_ _ | refine kD ?_ | refine kA ?_ _)); refine kR ?_ NB457_459.out _; (with_reducible repeat (first | refine kN ?_ _ | refine kD ?_ | refine kA ?_ _)); refine kR ?_ NB457_459.out _; (with_reducible repeat (first | refine kN ?_ _ | refine kD ?_ | refine kA ?_ _)); refine kR ?_ NB457_459.out _; (with_reducible repeat (first | refine kN ?_ _ | refine kD ?_ | refine kA ?_ _)); refine kR ?_ NB457_459.out _; (with_reducible repeat (first | refine kN ?_ _ | refine kD ?_ | refine kA ?_ _)); refine kR ?_ NB457_459.out _; (with_reducible repeat (first | refine kN ?_ _ | refine kD ?_ | refine kA ?_ _)); refine kR ?_ NB457_459.out _; (with_reducible repeat (first | refine kN ?_ _ | refine kD ?_ | refine kA ?_ _)); refine kR ?_ NB457_459.out _; (with_reducible repeat (first | refine kN ?_ _ | refine kD ?_ | refine kA ?_ _)); exact BK457.out⟩, ⟨by (with_reducible repeat (first | refine kN ?_ _ | refine kD ?_ | refine kA ?_ _)); refine kR ?_ NB458_459.out _; (with_reducible repeat (first | refine kN ?_ _ | refine kD ?_ | refine kA ?_ _)); refine kR ?_ NB458_459.out _; (with_reducible repeat (first | refine kN ?_ _ | refine kD ?_ | refine kA ?_ _)); refine kR ?_ NB458_459.out _; (with_reducible repeat (first | refine kN ?_ _ | refine kD ?_ | refine kA ?_ _)); refine kR ?_ NB458_459.out _; (with_reducible repeat (first | refine kN ?_ _ | refine kD ?_ | refine kA ?_ _)); refine kR ?_ NB458_459.out _; (with_reducible repeat (first | refine kN ?_ _ | refine kD ?_ | refine kA ?_ _)); refine kR ?_ NB458_459.out _; (with_reducible repeat (first | refine kN ?_ _ | refine kD ?_ | refine kA ?_ _)); refine kR ?_ NB458_459.out _; (with_reducible repeat (first | refine kN ?_ _ | refine kD ?_ | refine kA ?_ _)); refine kR ?_ NB458_459.out _; (with_reducible repeat (first | refine kN ?_ _ | refine kD ?_ | refine kA ?_ _)); exact BK458.out⟩, ⟨by (with_reducible repeat (first | refine kN ?_ _ | refine kD ?_ | refine kA ?_ _)); refine kP (cs := #[.int .i64 t449, .int .i64 t450, .int .u8 t451, .int .i64 t452, .int .i64 t453, .int .i64 t454, .int .i64 t455, .bool false]) ?_ 7 _ rfl; (with_reducible repeat (first | refine kN ?_ _ | refine kD ?_ | refine kA ?_ _)); refine kP (cs := #[.int .i64 t449, .int .i64 t450, .int .u8 t451, .int .i64 t452, .int .i64 t453, .int .i64 t454, .int .i64 0, .bool false]) ?_ 6 _ rfl; (with_reducible repeat (first | refine kN ?_ _ | refine kD ?_ | refine kA ?_ _)); refine kP (cs := #[.int .i64 t449, .int .i64 t450, .int .u8 t451, .int .i64 t452, .int .i64 t453, .int .i64 0, .int .i64 0, .bool false]) ?_ 5 _ rfl; (with_reducible repeat (first | refine kN ?_ _ | refine kD ?_ | refine kA ?_ _)); refine kP (cs := #[.int .i64 t449, .int .i64 t450, .int .u8 t451, .int .i64 t452, .int .i64 0, .int .i64 0, .int .i64 0, .bool false]) ?_ 4 _ rfl; (with_reducible repeat (first | refine kN ?_ _ | refine kD ?_ | refine kA ?_ _)); refine kP (cs := #[.int .i64 t449, .int .i64 t450, .int .u8 t451, .int .i64 0, .int .i64 0, .int .i64 0, .int .i64 0, .bool false]) ?_ 3 _ rfl; (with_reducible repeat (first | refine kN ?_ _ | refine kD ?_ | refine kA ?_ _)); refine kP (cs := #[.int .i64 t449, .int .i64 t450, .int .u8 0, .int .i64 0, .int .i64 0, .int .i64 0, .int .i64 0, .bool false]) ?_ 2 _ rfl; (with_reducible repeat (first | refine kN ?_ _ | refine kD ?_ | refine kA ?_ _)); refine kP (cs := #[.int .i64 t449, .int .i64 0, .int .u8 0, .int .i64 0, .int .i64 0, .int .i64 0, .int .i64 0, .bool false]) ?_ 1 _ rfl; (with_reducible repeat (first | refine kN ?_ _ | refine kD ?_ | refine kA ?_ _)); refine kP (cs := #[.int .i64 0, .int .i64 0, .int .u8 0, .int .i64 0, .int .i64 0, .int .i64 0, .int .i64 0, .bool false]) ?_ 0 _ rfl; (with_reducible repeat (first | refine kN ?_ _ | refine kD ?_ | refine kA ?_ _)); exact BK459.out⟩, ⟨by repeat (first | (with_reducible first | exact HB.out | apply kL | apply kM | apply kE | refine kS ?_ GE457.out | refine kS ?_ GE458.out | refine kS ?_ GE459.out) | exact HB.out)⟩⟩
 case rest =>
  clear HC7
  try clear c1
  try clear c2
  try clear p2
  try clear p6
  try clear c10
  try clear c12
  try clear c16
  try clear c17
  try clear c20
  try clear c20b0
  try clear c20b1
  try clear c21
  try clear c22
  try clear c26
  try clear hcz10_0
  try clear hcz10_1
  try clear hcz10_2
  try clear hcz10_3
  try clear hcz10_4
  try clear hcz10_5
  try clear hcz10_6
  try clear hcz10_7
  try clear hcz13_0
  try clear hcz13_1
  try clear hcz13_2
  try clear hcz13_3
  try clear hcz13_4
  try clear hcz13_5
  try clear hcz13_6
  try clear hcz13_7
  try clear hcz14_0
  try clear hcz14_1
  try clear hcz14_2
  try clear hcz14_3
  try clear hcz14_4
  try clear hcz14_5
  try clear hcz14_6
  try clear hcz14_7
  try clear hcz18_0
  try clear hcz18_1
  try clear hcz18_2
  try clear hcz18_3
  try clear hcz18_4
  try clear hcz18_5
  try clear hcz18_6
  try clear hcz18_7
  try clear hcz19_0
  try clear hcz19_1
  try clear hcz19_2
  try clear hcz19_3
  try clear hcz19_4
  try clear hcz19_5
  try clear hcz19_6
  try clear hcz19_7
  try clear hcz23_0
  try clear hcz23_1
  try clear hcz23_2
  try clear hcz23_3
  try clear hcz23_4
  try clear hcz23_5
  try clear hcz23_6
  try clear hcz23_7
  try clear hcz25_0
  try clear hcz25_1
  try clear hcz25_2
  try clear hcz25_3
  try clear hcz25_4
  try clear hcz25_5
  try clear hcz25_6
  try clear hcz25_7
  try clear hcz27_0
  try clear hcz27_1
  try clear hcz27_2
  try clear hcz27_3
  try clear hcz27_4
  try clear hcz27_5
  try clear hcz27_6
  try clear hcz27_7
  try clear hfz10_0
  try clear hfz10_1
  try clear hfz10_2
  try clear hfz10_3
  try clear hfz10_4
  try clear hfz10_5
  try clear hfz10_6
  try clear hfz10_7
  try clear hfz13_0
  try clear hfz13_1
  try clear hfz13_2
  try clear hfz13_3
  try clear hfz13_4
  try clear hfz13_5
  try clear hfz13_6
  try clear hfz13_7
  try clear hfz14_0
  try clear hfz14_1
  try clear hfz14_2
  try clear hfz14_3
  try clear hfz14_4
  try clear hfz14_5
  try clear hfz14_6
  try clear hfz14_7
  try clear hfz18_0
  try clear hfz18_1
  try clear hfz18_2
  try clear hfz18_3
  try clear hfz18_4
  try clear hfz18_5
  try clear hfz18_6
  try clear hfz18_7
  try clear hfz19_0
  try clear hfz19_1
  try clear hfz19_2
  try clear hfz19_3
  try clear hfz19_4
  try clear hfz19_5
  try clear hfz19_6
  try clear hfz19_7
  try clear hfz23_0
  try clear hfz23_1
  try clear hfz23_2
  try clear hfz23_3
  try clear hfz23_4
  try clear hfz23_5
  try clear hfz23_6
  try clear hfz23_7
  try clear hfz25_0
  try clear hfz25_1
  try clear hfz25_2
  try clear hfz25_3
  try clear hfz25_4
  try clear hfz25_5
  try clear hfz25_6
  try clear hfz25_7
  try clear hfz27_0
  try clear hfz27_1
  try clear hfz27_2
  try clear hfz27_3
  try clear hfz27_4
  try clear hfz27_5
  try clear hfz27_6
  try clear hfz27_7
  obtain ⟨kq, x459002_6, x459005_6, x459006_6, x460002_6, x460006_6, HA, HJ6, BK457, BK458, BK459, HB⟩ := hcut
  cases kq with
  | zero => exact absurd HA.out (by simp [paybooklaw12_CycleWakes.j0])
  | succ kj6 =>
   have H := HA.out
   clear HA
   simp only [paybooklaw12_CycleWakes.j0] at H
   have HC28 := Aside0.mk H
   clear H
   have hnb29 := NB458_457.out
   have hnc29 := NB457_458.out
   have hnb30 := NB458_459.out
   have hnc30 := NB459_458.out
   have hcz31_0 : wc.cell? ⟨gb458, 0, none⟩ = some (.int .i64 t449) := (kC BK458.out 0).trans rfl
   have hcz31_1 : wc.cell? ⟨gb458, 1, none⟩ = some (.int .i64 t450) := (kC BK458.out 1).trans rfl
   have hcz31_2 : wc.cell? ⟨gb458, 2, none⟩ = some (.int .u8 x459002_6) := (kC BK458.out 2).trans rfl
   have hcz31_3 : wc.cell? ⟨gb458, 3, none⟩ = some (.int .i64 t452) := (kC BK458.out 3).trans rfl
   have hcz31_4 : wc.cell? ⟨gb458, 4, none⟩ = some (.int .i64 t453) := (kC BK458.out 4).trans rfl
   have hcz31_5 : wc.cell? ⟨gb458, 5, none⟩ = some (.int .i64 x459005_6) := (kC BK458.out 5).trans rfl
   have hcz31_6 : wc.cell? ⟨gb458, 6, none⟩ = some (.int .i64 x459006_6) := (kC BK458.out 6).trans rfl
   have hcz31_7 : wc.cell? ⟨gb458, 7, none⟩ = some (.bool t456) := (kC BK458.out 7).trans rfl
   have hfz31_0 := kF BK458.out 0
   have hfz31_1 := kF BK458.out 1
   have hfz31_2 := kF BK458.out 2
   have hfz31_3 := kF BK458.out 3
   have hfz31_4 := kF BK458.out 4
   have hfz31_5 := kF BK458.out 5
   have hfz31_6 := kF BK458.out 6
   have hfz31_7 := kF BK458.out 7
   go_upto_if 38 with (first | ((with_reducible refine gate_dst (N := 14) rfl ?_); refine box_event ?hg (N := 14) ?hd (cs := #[.int .i64 0, .int .i64 0, .int .u8 0, .int .i64 0, .int .i64 0, .int .i64 0, .int .i64 0, .bool false]) (t := 25) ?hr ?_; (case hd => rfl); (case hg => rfl); (case hr => first | (go_simp; done) | (go_simp; rfl)); intro gb460 hg w32 hbox hb; have n0_ := Aside0.mk (blk_below (g := gb457) (o := .cells #[.int .i64 t449, .int .i64 t450, .int .u8 t451, .int .i64 t452, .int .i64 t453, .int .i64 t454, .int .i64 t455, .bool t456] 25 (0, 0)) (by (with_reducible repeat (first | refine kN ?_ _ | refine kD ?_ | refine kA ?_ _)); exact BK457.out) hb); have n1_ := Aside0.mk (blk_below (g := gb458) (o := .cells #[.int .i64 t449, .int .i64 t450, .int .u8 x459002_6, .int .i64 t452, .int .i64 t453, .int .i64 x459005_6, .int .i64 x459006_6, .bool t456] 25 (0, 0)) (by (with_reducible repeat (first | refine kN ?_ _ | refine kD ?_ | refine kA ?_ _)); exact BK458.out) hb); have n2_ := Aside0.mk (blk_below (g := gb459) (o := .cells #[.int .i64 t449, .int .i64 t450, .int .u8 x460002_6, .int .i64 t452, .int .i64 t453, .int .i64 t454, .int .i64 x460006_6, .bool t456] 25 (0, 0)) (by (with_reducible repeat (first | refine kN ?_ _ | refine kD ?_ | refine kA ?_ _)); exact BK459.out) hb); have n3_ := Aside0.mk (below_step (by repeat (first | (with_reducible first | exact HB.out | apply kL | apply kM | apply kE | refine kS ?_ GE457.out | refine kS ?_ GE458.out | refine kS ?_ GE459.out) | exact HB.out)) hb); have n4_ := Aside0.mk (hbox); have n5_ := Aside0.mk ((by rw [hg]; exact (below_size (by repeat (first | (with_reducible first | exact HB.out | apply kL | apply kM | apply kE | refine kS ?_ GE457.out | refine kS ?_ GE458.out | refine kS ?_ GE459.out) | exact HB.out))) : w.heap.size ≤ gb460)); have n6_ := Aside0.mk ((by rw [hg]; exact (below_size (by repeat (first | (with_reducible first | exact HB.out | apply kL | apply kM | apply kE | refine kS ?_ GE457.out | refine kS ?_ GE458.out | refine kS ?_ GE459.out) | exact HB.out))) : w.heap.size ≤ gb460)); have n7_ := Aside0.mk ((by rw [hg]; exact Nat.ne_of_lt (blk_lt (g := gb457) (o := .cells #[.int .i64 t449, .int .i64 t450, .int .u8 t451, .int .i64 t452, .int .i64 t453, .int .i64 t454, .int .i64 t455, .bool t456] 25 (0, 0)) (by (with_reducible repeat (first | refine kN ?_ _ | refine kD ?_ | refine kA ?_ _)); exact BK457.out)) : gb457 ≠ gb460)); have n8_ := Aside0.mk ((by rw [hg]; exact Nat.ne_of_gt (blk_lt (g := gb457) (o := .cells #[.int .i64 t449, .int .i64 t450, .int .u8 t451, .int .i64 t452, .int .i64 t453, .int .i64 t454, .int .i64 t455, .bool t456] 25 (0, 0)) (by (with_reducible repeat (first | refine kN ?_ _ | refine kD ?_ | refine kA ?_ _)); exact BK457.out)) : gb460 ≠ gb457)); have n9_ := Aside0.mk ((by rw [hg]; exact Nat.ne_of_lt (blk_lt (g := gb458) (o := .cells #[.int .i64 t449, .int .i64 t450, .int .u8 x459002_6, .int .i64 t452, .int .i64 t453, .int .i64 x459005_6, .int .i64 x459006_6, .bool t456] 25 (0, 0)) (by (with_reducible repeat (first | refine kN ?_ _ | refine kD ?_ | refine kA ?_ _)); exact BK458.out)) : gb458 ≠ gb460)); have n10_ := Aside0.mk ((by rw [hg]; exact Nat.ne_of_gt (blk_lt (g := gb458) (o := .cells #[.int .i64 t449, .int .i64 t450, .int .u8 x459002_6, .int .i64 t452, .int .i64 t453, .int .i64 x459005_6, .int .i64 x459006_6, .bool t456] 25 (0, 0)) (by (with_reducible repeat (first | refine kN ?_ _ | refine kD ?_ | refine kA ?_ _)); exact BK458.out)) : gb460 ≠ gb458)); have n11_ := Aside0.mk ((by rw [hg]; exact Nat.ne_of_lt (blk_lt (g := gb459) (o := .cells #[.int .i64 t449, .int .i64 t450, .int .u8 x460002_6, .int .i64 t452, .int .i64 t453, .int .i64 t454, .int .i64 x460006_6, .bool t456] 25 (0, 0)) (by (with_reducible repeat (first | refine kN ?_ _ | refine kD ?_ | refine kA ?_ _)); exact BK459.out)) : gb459 ≠ gb460)); have n12_ := Aside0.mk ((by rw [hg]; exact Nat.ne_of_gt (blk_lt (g := gb459) (o := .cells #[.int .i64 t449, .int .i64 t450, .int .u8 x460002_6, .int .i64 t452, .int .i64 t453, .int .i64 t454, .int .i64 x460006_6, .bool t456] 25 (0, 0)) (by (with_reducible repeat (first | refine kN ?_ _ | refine kD ?_ | refine kA ?_ _)); exact BK459.out)) : gb460 ≠ gb459)); clear BK457; clear BK458; clear BK459; clear HB; have BK457 := n0_; have BK458 := n1_; have BK459 := n2_; have HB := n3_; have BK460 := n4_; have GW460 := n5_; have GE460 := n6_; have NB457_460 := n7_; have NB460_457 := n8_; have NB458_460 := n9_; have NB460_458 := n10_; have NB459_460 := n11_; have NB460_459 := n12_; clear n0_ n1_ n2_ n3_ n4_ n5_ n6_ n7_ n8_ n9_ n10_ n11_ n12_; clear hb hbox hg; have hnb33 := NB460_457.out; have hnc33 := NB457_460.out; have hnb34 := NB460_458.out; have hnc34 := NB458_460.out; have hnb35 := NB460_459.out; have hnc35 := NB459_460.out; have hcz36_0 : w32.cell? ⟨gb460, 0, none⟩ = some (.int .i64 0) := (kC BK460.out 0).trans rfl; have hcz36_1 : w32.cell? ⟨gb460, 1, none⟩ = some (.int .i64 0) := (kC BK460.out 1).trans rfl; have hcz36_2 : w32.cell? ⟨gb460, 2, none⟩ = some (.int .u8 0) := (kC BK460.out 2).trans rfl; have hcz36_3 : w32.cell? ⟨gb460, 3, none⟩ = some (.int .i64 0) := (kC BK460.out 3).trans rfl; have hcz36_4 : w32.cell? ⟨gb460, 4, none⟩ = some (.int .i64 0) := (kC BK460.out 4).trans rfl; have hcz36_5 : w32.cell? ⟨gb460, 5, none⟩ = some (.int .i64 0) := (kC BK460.out 5).trans rfl; have hcz36_6 : w32.cell? ⟨gb460, 6, none⟩ = some (.int .i64 0) := (kC BK460.out 6).trans rfl; have hcz36_7 : w32.cell? ⟨gb460, 7, none⟩ = some (.bool false) := (kC BK460.out 7).trans rfl; have hfz36_0 := kF BK460.out 0; have hfz36_1 := kF BK460.out 1; have hfz36_2 := kF BK460.out 2; have hfz36_3 := kF BK460.out 3; have hfz36_4 := kF BK460.out 4; have hfz36_5 := kF BK460.out 5; have hfz36_6 := kF BK460.out 6; have hfz36_7 := kF BK460.out 7; have hnb37 := NB457_459.out; have hnc37 := NB459_457.out; have hcz38_0 : w32.cell? ⟨gb457, 0, none⟩ = some (.int .i64 t449) := (kC BK457.out 0).trans rfl; have hcz38_1 : w32.cell? ⟨gb457, 1, none⟩ = some (.int .i64 t450) := (kC BK457.out 1).trans rfl; have hcz38_2 : w32.cell? ⟨gb457, 2, none⟩ = some (.int .u8 t451) := (kC BK457.out 2).trans rfl; have hcz38_3 : w32.cell? ⟨gb457, 3, none⟩ = some (.int .i64 t452) := (kC BK457.out 3).trans rfl; have hcz38_4 : w32.cell? ⟨gb457, 4, none⟩ = some (.int .i64 t453) := (kC BK457.out 4).trans rfl; have hcz38_5 : w32.cell? ⟨gb457, 5, none⟩ = some (.int .i64 t454) := (kC BK457.out 5).trans rfl; have hcz38_6 : w32.cell? ⟨gb457, 6, none⟩ = some (.int .i64 t455) := (kC BK457.out 6).trans rfl; have hcz38_7 : w32.cell? ⟨gb457, 7, none⟩ = some (.bool t456) := (kC BK457.out 7).trans rfl; have hfz38_0 := kF BK457.out 0; have hfz38_1 := kF BK457.out 1; have hfz38_2 := kF BK457.out 2; have hfz38_3 := kF BK457.out 3; have hfz38_4 := kF BK457.out 4; have hfz38_5 := kF BK457.out 5; have hfz38_6 := kF BK457.out 6; have hfz38_7 := kF BK457.out 7))
   (try simp only [Act.put, List.setIfInBounds_toArray, List.set_cons_zero, List.set_cons_succ])
   go_cut [] (fun wc => ∃ (kq : Nat) (x461000_27 : Int) (x461001_27 : Int) (x461002_27 : Int) (x461003_27 : Int) (x461004_27 : Int) (x461005_27 : Int) (x461006_27 : Int) (x461007_27 : Bool), Aside0 (paybooklaw12_CycleWakes.j1 kq a4 t449 t450 t451 t452 t453 t454 t455 t456 t449 t450 x459002_6 t452 t453 x459005_6 x459006_6 t456 t449 t450 x460002_6 t452 t453 t454 x460006_6 t456 x461000_27 x461001_27 x461002_27 x461003_27 x461004_27 x461005_27 x461006_27 x461007_27 = some true) ∧ Aside0 (kq ≤ kj6) ∧ Aside0 (wc.heap[gb457]? = some (.cells #[.int .i64 t449, .int .i64 t450, .int .u8 t451, .int .i64 t452, .int .i64 t453, .int .i64 t454, .int .i64 t455, .bool t456] 25 (0, 0))) ∧ Aside0 (wc.heap[gb458]? = some (.cells #[.int .i64 t449, .int .i64 t450, .int .u8 x459002_6, .int .i64 t452, .int .i64 t453, .int .i64 x459005_6, .int .i64 x459006_6, .bool t456] 25 (0, 0))) ∧ Aside0 (wc.heap[gb459]? = some (.cells #[.int .i64 t449, .int .i64 t450, .int .u8 x460002_6, .int .i64 t452, .int .i64 t453, .int .i64 t454, .int .i64 x460006_6, .bool t456] 25 (0, 0))) ∧ Aside0 (wc.heap[gb460]? = some (.cells #[.int .i64 x461000_27, .int .i64 x461001_27, .int .u8 x461002_27, .int .i64 x461003_27, .int .i64 x461004_27, .int .i64 x461005_27, .int .i64 x461006_27, .bool x461007_27] 25 (0, 0))) ∧ Aside0 (Below w.heap.size w wc))
   case first =>
    have H := HC28.out
    clear HC28
    by_cases c39 : (wrap64 (a4)) < t455
    ·rw [if_pos c39] at H
     have c39b0 : decide ((wrap64 (a4)) < t455) = true := decide_eq_true c39
     clear c39
     (first | (generalize hg_ : decide ((wrap64 (a4)) < t455) = bg_ at *; subst c39b0; have c39b0 := hg_; clear hg_) | rw [c39b0] | (simp only [i64_w, i32_w]; rw [c39b0]) | skip)
     have H' := Aside0.mk H
     clear H
     have hnb40 := NB457_458.out
     have hnc40 := NB458_457.out
     have hnb41 := NB457_459.out
     have hnc41 := NB459_457.out
     have hnb42 := NB457_460.out
     have hnc42 := NB460_457.out
     have hcz43_0 : w32.cell? ⟨gb457, 0, none⟩ = some (.int .i64 t449) := (kC BK457.out 0).trans rfl
     have hcz43_1 : w32.cell? ⟨gb457, 1, none⟩ = some (.int .i64 t450) := (kC BK457.out 1).trans rfl
     have hcz43_2 : w32.cell? ⟨gb457, 2, none⟩ = some (.int .u8 t451) := (kC BK457.out 2).trans rfl
     have hcz43_3 : w32.cell? ⟨gb457, 3, none⟩ = some (.int .i64 t452) := (kC BK457.out 3).trans rfl
     have hcz43_4 : w32.cell? ⟨gb457, 4, none⟩ = some (.int .i64 t453) := (kC BK457.out 4).trans rfl
     have hcz43_5 : w32.cell? ⟨gb457, 5, none⟩ = some (.int .i64 t454) := (kC BK457.out 5).trans rfl
     have hcz43_6 : w32.cell? ⟨gb457, 6, none⟩ = some (.int .i64 t455) := (kC BK457.out 6).trans rfl
     have hcz43_7 : w32.cell? ⟨gb457, 7, none⟩ = some (.bool t456) := (kC BK457.out 7).trans rfl
     have hfz43_0 := kF BK457.out 0
     have hfz43_1 := kF BK457.out 1
     have hfz43_2 := kF BK457.out 2
     have hfz43_3 := kF BK457.out 3
     have hfz43_4 := kF BK457.out 4
     have hfz43_5 := kF BK457.out 5
     have hfz43_6 := kF BK457.out 6
     have hfz43_7 := kF BK457.out 7
     have hnb44 := NB460_458.out
     have hnc44 := NB458_460.out
     have hnb45 := NB460_459.out
     have hnc45 := NB459_460.out
     have hcz46_0 : w32.cell? ⟨gb460, 0, none⟩ = some (.int .i64 0) := (kC BK460.out 0).trans rfl
     have hcz46_1 : w32.cell? ⟨gb460, 1, none⟩ = some (.int .i64 0) := (kC BK460.out 1).trans rfl
     have hcz46_2 : w32.cell? ⟨gb460, 2, none⟩ = some (.int .u8 0) := (kC BK460.out 2).trans rfl
     have hcz46_3 : w32.cell? ⟨gb460, 3, none⟩ = some (.int .i64 0) := (kC BK460.out 3).trans rfl
     have hcz46_4 : w32.cell? ⟨gb460, 4, none⟩ = some (.int .i64 0) := (kC BK460.out 4).trans rfl
     have hcz46_5 : w32.cell? ⟨gb460, 5, none⟩ = some (.int .i64 0) := (kC BK460.out 5).trans rfl
     have hcz46_6 : w32.cell? ⟨gb460, 6, none⟩ = some (.int .i64 0) := (kC BK460.out 6).trans rfl
     have hcz46_7 : w32.cell? ⟨gb460, 7, none⟩ = some (.bool false) := (kC BK460.out 7).trans rfl
     have hfz46_0 := kF BK460.out 0
     have hfz46_1 := kF BK460.out 1
     have hfz46_2 := kF BK460.out 2
     have hfz46_3 := kF BK460.out 3
     have hfz46_4 := kF BK460.out 4
     have hfz46_5 := kF BK460.out 5
     have hfz46_6 := kF BK460.out 6
     have hfz46_7 := kF BK460.out 7
     go_wp2_with (first | ((with_reducible refine gate_dst (N := 39) rfl ?_); refine wpList_load_row rfl 25 (.tmp 11) rfl gb457 rfl 25 #[.int .i64 t449, .int .i64 t450, .int .u8 t451, .int .i64 t452, .int .i64 t453, .int .i64 t454, .int .i64 t455, .bool t456] (0, 0) _ (by (with_reducible repeat (first | refine kN ?_ _ | refine kD ?_ | refine kA ?_ _)); refine kR ?_ NB457_460.out _; (with_reducible repeat (first | refine kN ?_ _ | refine kD ?_ | refine kA ?_ _)); refine kR ?_ NB457_460.out _; (with_reducible repeat (first | refine kN ?_ _ | refine kD ?_ | refine kA ?_ _)); refine kR ?_ NB457_460.out _; (with_reducible repeat (first | refine kN ?_ _ | refine kD ?_ | refine kA ?_ _)); refine kR ?_ NB457_460.out _; (with_reducible repeat (first | refine kN ?_ _ | refine kD ?_ | refine kA ?_ _)); refine kR ?_ NB457_460.out _; (with_reducible repeat (first | refine kN ?_ _ | refine kD ?_ | refine kA ?_ _)); refine kR ?_ NB457_460.out _; (with_reducible repeat (first | refine kN ?_ _ | refine kD ?_ | refine kA ?_ _)); refine kR ?_ NB457_460.out _; (with_reducible repeat (first | refine kN ?_ _ | refine kD ?_ | refine kA ?_ _)); refine kR ?_ NB457_460.out _; (with_reducible repeat (first | refine kN ?_ _ | refine kD ?_ | refine kA ?_ _)); exact BK457.out) Tryd.underlying25 rfl (by kernel_rfl) ?_) | ((with_reducible refine gate_store (t := 25) (p := 14) rfl ?_); refine store_event (t := 25) (p := 14) (v := ?vo_w47) (w1 := ((((((((((((((((w32.setCell ⟨gb460, 0, none⟩ (.int .i64 t449)).setCell ⟨gb460, 1, none⟩ (.int .i64 t450)).setCell ⟨gb460, 2, none⟩ (.int .u8 x459002_6)).setCell ⟨gb460, 3, none⟩ (.int .i64 t452)).setCell ⟨gb460, 4, none⟩ (.int .i64 t453)).setCell ⟨gb460, 5, none⟩ (.int .i64 x459005_6)).setCell ⟨gb460, 6, none⟩ (.int .i64 x459006_6)).setCell ⟨gb460, 7, none⟩ (.bool t456)).setCell ⟨gb460, 0, none⟩ (.int .i64 t449)).setCell ⟨gb460, 1, none⟩ (.int .i64 t450)).setCell ⟨gb460, 2, none⟩ (.int .u8 t451)).setCell ⟨gb460, 3, none⟩ (.int .i64 t452)).setCell ⟨gb460, 4, none⟩ (.int .i64 t453)).setCell ⟨gb460, 5, none⟩ (.int .i64 t454)).setCell ⟨gb460, 6, none⟩ (.int .i64 t455)).setCell ⟨gb460, 7, none⟩ (.bool t456))) ?hg ?ho ?hn ?hr ?_; (case ho => rfl); (case hg => rfl); (case hn => rfl); (case hr => first | (go_simp; done) | (go_simp; rfl)); intro w47 hw; have n0_ : Aside0 (w47.heap[gb457]? = some (.cells #[.int .i64 t449, .int .i64 t450, .int .u8 t451, .int .i64 t452, .int .i64 t453, .int .i64 t454, .int .i64 t455, .bool t456] 25 (0, 0))) := ⟨(by rw [hw]; exact (by (with_reducible repeat (first | refine kN ?_ _ | refine kD ?_ | refine kA ?_ _)); refine kR ?_ NB457_460.out _; (with_reducible repeat (first | refine kN ?_ _ | refine kD ?_ | refine kA ?_ _)); refine kR ?_ NB457_460.out _; (with_reducible repeat (first | refine kN ?_ _ | refine kD ?_ | refine kA ?_ _)); refine kR ?_ NB457_460.out _; (with_reducible repeat (first | refine kN ?_ _ | refine kD ?_ | refine kA ?_ _)); refine kR ?_ NB457_460.out _; (with_reducible repeat (first | refine kN ?_ _ | refine kD ?_ | refine kA ?_ _)); refine kR ?_ NB457_460.out _; (with_reducible repeat (first | refine kN ?_ _ | refine kD ?_ | refine kA ?_ _)); refine kR ?_ NB457_460.out _; (with_reducible repeat (first | refine kN ?_ _ | refine kD ?_ | refine kA ?_ _)); refine kR ?_ NB457_460.out _; (with_reducible repeat (first | refine kN ?_ _ | refine kD ?_ | refine kA ?_ _)); refine kR ?_ NB457_460.out _; (with_reducible repeat (first | refine kN ?_ _ | refine kD ?_ | refine kA ?_ _)); refine kR ?_ NB457_460.out _; (with_reducible repeat (first | refine kN ?_ _ | refine kD ?_ | refine kA ?_ _)); refine kR ?_ NB457_460.out _; (with_reducible repeat (first | refine kN ?_ _ | refine kD ?_ | refine kA ?_ _)); refine kR ?_ NB457_460.out _; (with_reducible repeat (first | refine kN ?_ _ | refine kD ?_ | refine kA ?_ _)); refine kR ?_ NB457_460.out _; (with_reducible repeat (first | refine kN ?_ _ | refine kD ?_ | refine kA ?_ _)); refine kR ?_ NB457_460.out _; (with_reducible repeat (first | refine kN ?_ _ | refine kD ?_ | refine kA ?_ _)); refine kR ?_ NB457_460.out _; (with_reducible repeat (first | refine kN ?_ _ | refine kD ?_ | refine kA ?_ _)); refine kR ?_ NB457_460.out _; (with_reducible repeat (first | refine kN ?_ _ | refine kD ?_ | refine kA ?_ _)); refine kR ?_ NB457_460.out _; (with_reducible repeat (first | refine kN ?_ _ | refine kD ?_ | refine kA ?_ _)); exact BK457.out))⟩; have n1_ : Aside0 (w47.heap[gb458]? = some (.cells #[.int .i64 t449, .int .i64 t450, .int .u8 x459002_6, .int .i64 t452, .int .i64 t453, .int .i64 x459005_6, .int .i64 x459006_6, .bool t456] 25 (0, 0))) := ⟨(by rw [hw]; exact (by (with_reducible repeat (first | refine kN ?_ _ | refine kD ?_ | refine kA ?_ _)); refine kR ?_ NB458_460.out _; (with_reducible repeat (first | refine kN ?_ _ | refine kD ?_ | refine kA ?_ _)); refine kR ?_ NB458_460.out _; (with_reducible repeat (first | refine kN ?_ _ | refine kD ?_ | refine kA ?_ _)); refine kR ?_ NB458_460.out _; (with_reducible repeat (first | refine kN ?_ _ | refine kD ?_ | refine kA ?_ _)); refine kR ?_ NB458_460.out _; (with_reducible repeat (first | refine kN ?_ _ | refine kD ?_ | refine kA ?_ _)); refine kR ?_ NB458_460.out _; (with_reducible repeat (first | refine kN ?_ _ | refine kD ?_ | refine kA ?_ _)); refine kR ?_ NB458_460.out _; (with_reducible repeat (first | refine kN ?_ _ | refine kD ?_ | refine kA ?_ _)); refine kR ?_ NB458_460.out _; (with_reducible repeat (first | refine kN ?_ _ | refine kD ?_ | refine kA ?_ _)); refine kR ?_ NB458_460.out _; (with_reducible repeat (first | refine kN ?_ _ | refine kD ?_ | refine kA ?_ _)); refine kR ?_ NB458_460.out _; (with_reducible repeat (first | refine kN ?_ _ | refine kD ?_ | refine kA ?_ _)); refine kR ?_ NB458_460.out _; (with_reducible repeat (first | refine kN ?_ _ | refine kD ?_ | refine kA ?_ _)); refine kR ?_ NB458_460.out _; (with_reducible repeat (first | refine kN ?_ _ | refine kD ?_ | refine kA ?_ _)); refine kR ?_ NB458_460.out _; (with_reducible repeat (first | refine kN ?_ _ | refine kD ?_ | refine kA ?_ _)); refine kR ?_ NB458_460.out _; (with_reducible repeat (first | refine kN ?_ _ | refine kD ?_ | refine kA ?_ _)); refine kR ?_ NB458_460.out _; (with_reducible repeat (first | refine kN ?_ _ | refine kD ?_ | refine kA ?_ _)); refine kR ?_ NB458_460.out _; (with_reducible repeat (first | refine kN ?_ _ | refine kD ?_ | refine kA ?_ _)); refine kR ?_ NB458_460.out _; (with_reducible repeat (first | refine kN ?_ _ | refine kD ?_ | refine kA ?_ _)); exact BK458.out))⟩; have n2_ : Aside0 (w47.heap[gb459]? = some (.cells #[.int .i64 t449, .int .i64 t450, .int .u8 x460002_6, .int .i64 t452, .int .i64 t453, .int .i64 t454, .int .i64 x460006_6, .bool t456] 25 (0, 0))) := ⟨(by rw [hw]; exact (by (with_reducible repeat (first | refine kN ?_ _ | refine kD ?_ | refine kA ?_ _)); refine kR ?_ NB459_460.out _; (with_reducible repeat (first | refine kN ?_ _ | refine kD ?_ | refine kA ?_ _)); refine kR ?_ NB459_460.out _; (with_reducible repeat (first | refine kN ?_ _ | refine kD ?_ | refine kA ?_ _)); refine kR ?_ NB459_460.out _; (with_reducible repeat (first | refine kN ?_ _ | refine kD ?_ | refine kA ?_ _)); refine kR ?_ NB459_460.out _; (with_reducible repeat (first | refine kN ?_ _ | refine kD ?_ | refine kA ?_ _)); refine kR ?_ NB459_460.out _; (with_reducible repeat (first | refine kN ?_ _ | refine kD ?_ | refine kA ?_ _)); refine kR ?_ NB459_460.out _; (with_reducible repeat (first | refine kN ?_ _ | refine kD ?_ | refine kA ?_ _)); refine kR ?_ NB459_460.out _; (with_reducible repeat (first | refine kN ?_ _ | refine kD ?_ | refine kA ?_ _)); refine kR ?_ NB459_460.out _; (with_reducible repeat (first | refine kN ?_ _ | refine kD ?_ | refine kA ?_ _)); refine kR ?_ NB459_460.out _; (with_reducible repeat (first | refine kN ?_ _ | refine kD ?_ | refine kA ?_ _)); refine kR ?_ NB459_460.out _; (with_reducible repeat (first | refine kN ?_ _ | refine kD ?_ | refine kA ?_ _)); refine kR ?_ NB459_460.out _; (with_reducible repeat (first | refine kN ?_ _ | refine kD ?_ | refine kA ?_ _)); refine kR ?_ NB459_460.out _; (with_reducible repeat (first | refine kN ?_ _ | refine kD ?_ | refine kA ?_ _)); refine kR ?_ NB459_460.out _; (with_reducible repeat (first | refine kN ?_ _ | refine kD ?_ | refine kA ?_ _)); refine kR ?_ NB459_460.out _; (with_reducible repeat (first | refine kN ?_ _ | refine kD ?_ | refine kA ?_ _)); refine kR ?_ NB459_460.out _; (with_reducible repeat (first | refine kN ?_ _ | refine kD ?_ | refine kA ?_ _)); refine kR ?_ NB459_460.out _; (with_reducible repeat (first | refine kN ?_ _ | refine kD ?_ | refine kA ?_ _)); exact BK459.out))⟩; have n3_ : Aside0 (w47.heap[gb460]? = some (.cells #[.int .i64 t449, .int .i64 t450, .int .u8 t451, .int .i64 t452, .int .i64 t453, .int .i64 t454, .int .i64 t455, .bool t456] 25 (0, 0))) := ⟨(by rw [hw]; exact (by (with_reducible repeat (first | refine kN ?_ _ | refine kD ?_ | refine kA ?_ _)); refine kP (cs := #[.int .i64 t449, .int .i64 t450, .int .u8 t451, .int .i64 t452, .int .i64 t453, .int .i64 t454, .int .i64 t455, .bool t456]) ?_ 7 _ rfl; (with_reducible repeat (first | refine kN ?_ _ | refine kD ?_ | refine kA ?_ _)); refine kP (cs := #[.int .i64 t449, .int .i64 t450, .int .u8 t451, .int .i64 t452, .int .i64 t453, .int .i64 t454, .int .i64 x459006_6, .bool t456]) ?_ 6 _ rfl; (with_reducible repeat (first | refine kN ?_ _ | refine kD ?_ | refine kA ?_ _)); refine kP (cs := #[.int .i64 t449, .int .i64 t450, .int .u8 t451, .int .i64 t452, .int .i64 t453, .int .i64 x459005_6, .int .i64 x459006_6, .bool t456]) ?_ 5 _ rfl; (with_reducible repeat (first | refine kN ?_ _ | refine kD ?_ | refine kA ?_ _)); refine kP (cs := #[.int .i64 t449, .int .i64 t450, .int .u8 t451, .int .i64 t452, .int .i64 t453, .int .i64 x459005_6, .int .i64 x459006_6, .bool t456]) ?_ 4 _ rfl; (with_reducible repeat (first | refine kN ?_ _ | refine kD ?_ | refine kA ?_ _)); refine kP (cs := #[.int .i64 t449, .int .i64 t450, .int .u8 t451, .int .i64 t452, .int .i64 t453, .int .i64 x459005_6, .int .i64 x459006_6, .bool t456]) ?_ 3 _ rfl; (with_reducible repeat (first | refine kN ?_ _ | refine kD ?_ | refine kA ?_ _)); refine kP (cs := #[.int .i64 t449, .int .i64 t450, .int .u8 x459002_6, .int .i64 t452, .int .i64 t453, .int .i64 x459005_6, .int .i64 x459006_6, .bool t456]) ?_ 2 _ rfl; (with_reducible repeat (first | refine kN ?_ _ | refine kD ?_ | refine kA ?_ _)); refine kP (cs := #[.int .i64 t449, .int .i64 t450, .int .u8 x459002_6, .int .i64 t452, .int .i64 t453, .int .i64 x459005_6, .int .i64 x459006_6, .bool t456]) ?_ 1 _ rfl; (with_reducible repeat (first | refine kN ?_ _ | refine kD ?_ | refine kA ?_ _)); refine kP (cs := #[.int .i64 t449, .int .i64 t450, .int .u8 x459002_6, .int .i64 t452, .int .i64 t453, .int .i64 x459005_6, .int .i64 x459006_6, .bool t456]) ?_ 0 _ rfl; (with_reducible repeat (first | refine kN ?_ _ | refine kD ?_ | refine kA ?_ _)); refine kP (cs := #[.int .i64 t449, .int .i64 t450, .int .u8 x459002_6, .int .i64 t452, .int .i64 t453, .int .i64 x459005_6, .int .i64 x459006_6, .bool false]) ?_ 7 _ rfl; (with_reducible repeat (first | refine kN ?_ _ | refine kD ?_ | refine kA ?_ _)); refine kP (cs := #[.int .i64 t449, .int .i64 t450, .int .u8 x459002_6, .int .i64 t452, .int .i64 t453, .int .i64 x459005_6, .int .i64 0, .bool false]) ?_ 6 _ rfl; (with_reducible repeat (first | refine kN ?_ _ | refine kD ?_ | refine kA ?_ _)); refine kP (cs := #[.int .i64 t449, .int .i64 t450, .int .u8 x459002_6, .int .i64 t452, .int .i64 t453, .int .i64 0, .int .i64 0, .bool false]) ?_ 5 _ rfl; (with_reducible repeat (first | refine kN ?_ _ | refine kD ?_ | refine kA ?_ _)); refine kP (cs := #[.int .i64 t449, .int .i64 t450, .int .u8 x459002_6, .int .i64 t452, .int .i64 0, .int .i64 0, .int .i64 0, .bool false]) ?_ 4 _ rfl; (with_reducible repeat (first | refine kN ?_ _ | refine kD ?_ | refine kA ?_ _)); refine kP (cs := #[.int .i64 t449, .int .i64 t450, .int .u8 x459002_6, .int .i64 0, .int .i64 0, .int .i64 0, .int .i64 0, .bool false]) ?_ 3 _ rfl; (with_reducible repeat (first | refine kN ?_ _ | refine kD ?_ | refine kA ?_ _)); refine kP (cs := #[.int .i64 t449, .int .i64 t450, .int .u8 0, .int .i64 0, .int .i64 0, .int .i64 0, .int .i64 0, .bool false]) ?_ 2 _ rfl; (with_reducible repeat (first | refine kN ?_ _ | refine kD ?_ | refine kA ?_ _)); refine kP (cs := #[.int .i64 t449, .int .i64 0, .int .u8 0, .int .i64 0, .int .i64 0, .int .i64 0, .int .i64 0, .bool false]) ?_ 1 _ rfl; (with_reducible repeat (first | refine kN ?_ _ | refine kD ?_ | refine kA ?_ _)); refine kP (cs := #[.int .i64 0, .int .i64 0, .int .u8 0, .int .i64 0, .int .i64 0, .int .i64 0, .int .i64 0, .bool false]) ?_ 0 _ rfl; (with_reducible repeat (first | refine kN ?_ _ | refine kD ?_ | refine kA ?_ _)); exact BK460.out))⟩; have n4_ : Aside0 (Below w.heap.size w w47) := ⟨(by rw [hw]; exact (by repeat (first | (with_reducible first | exact HB.out | apply kL | apply kM | apply kE | refine kS ?_ GE457.out | refine kS ?_ GE458.out | refine kS ?_ GE459.out | refine kS ?_ GE460.out) | exact HB.out)))⟩; clear hw; clear BK457; clear BK458; clear BK459; clear BK460; clear HB; have BK457 := n0_; have BK458 := n1_; have BK459 := n2_; have BK460 := n3_; have HB := n4_; clear n0_ n1_ n2_ n3_ n4_))
     go_meet
     case rel => exact ⟨_, (t449), (t450), (t451), (t452), (t453), (t454), (t455), (t456), H', ⟨by have := HJ6.out; first | omega | exact Nat.le_refl _⟩, ⟨by (with_reducible repeat (first | refine kN ?_ _ | refine kD ?_ | refine kA ?_ _)); exact BK457.out⟩, ⟨by (with_reducible repeat (first | refine kN ?_ _ | refine kD ?_ | refine kA ?_ _)); exact BK458.out⟩, ⟨by (with_reducible repeat (first | refine kN ?_ _ | refine kD ?_ | refine kA ?_ _)); exact BK459.out⟩, ⟨by (with_reducible repeat (first | refine kN ?_ _ | refine kD ?_ | refine kA ?_ _)); exact BK460.out⟩, ⟨by repeat (first | (with_reducible first | exact HB.out | apply kL | apply kM | apply kE | refine kS ?_ GE457.out | refine kS ?_ GE458.out | refine kS ?_ GE459.out | refine kS ?_ GE460.out) | exact HB.out)⟩⟩
    ·rw [if_neg c39] at H
     have c39b0 : decide ((wrap64 (a4)) < t455) = false := decide_eq_false c39
     clear c39
     (first | (generalize hg_ : decide ((wrap64 (a4)) < t455) = bg_ at *; subst c39b0; have c39b0 := hg_; clear hg_) | rw [c39b0] | (simp only [i64_w, i32_w]; rw [c39b0]) | skip)
     have H' := Aside0.mk H
     clear H
     go_wp2
     go_meet
     case rel => exact ⟨_, (t449), (t450), (x459002_6), (t452), (t453), (x459005_6), (x459006_6), (t456), H', ⟨by have := HJ6.out; first | omega | exact Nat.le_refl _⟩, ⟨by (with_reducible repeat (first | refine kN ?_ _ | refine kD ?_ | refine kA ?_ _)); refine kR ?_ NB457_460.out _; (with_reducible repeat (first | refine kN ?_ _ | refine kD ?_ | refine kA ?_ _)); refine kR ?_ NB457_460.out _; (with_reducible repeat (first | refine kN ?_ _ | refine kD ?_ | refine kA ?_ _)); refine kR ?_ NB457_460.out _; (with_reducible repeat (first | refine kN ?_ _ | refine kD ?_ | refine kA ?_ _)); refine kR ?_ NB457_460.out _; (with_reducible repeat (first | refine kN ?_ _ | refine kD ?_ | refine kA ?_ _)); refine kR ?_ NB457_460.out _; (with_reducible repeat (first | refine kN ?_ _ | refine kD ?_ | refine kA ?_ _)); refine kR ?_ NB457_460.out _; (with_reducible repeat (first | refine kN ?_ _ | refine kD ?_ | refine kA ?_ _)); refine kR ?_ NB457_460.out _; (with_reducible repeat (first | refine kN ?_ _ | refine kD ?_ | refine kA ?_ _)); refine kR ?_ NB457_460.out _; (with_reducible repeat (first | refine kN ?_ _ | refine kD ?_ | refine kA ?_ _)); exact BK457.out⟩, ⟨by (with_reducible repeat (first | refine kN ?_ _ | refine kD ?_ | refine kA ?_ _)); refine kR ?_ NB458_460.out _; (with_reducible repeat (first | refine kN ?_ _ | refine kD ?_ | refine kA ?_ _)); refine kR ?_ NB458_460.out _; (with_reducible repeat (first | refine kN ?_ _ | refine kD ?_ | refine kA ?_ _)); refine kR ?_ NB458_460.out _; (with_reducible repeat (first | refine kN ?_ _ | refine kD ?_ | refine kA ?_ _)); refine kR ?_ NB458_460.out _; (with_reducible repeat (first | refine kN ?_ _ | refine kD ?_ | refine kA ?_ _)); refine kR ?_ NB458_460.out _; (with_reducible repeat (first | refine kN ?_ _ | refine kD ?_ | refine kA ?_ _)); refine kR ?_ NB458_460.out _; (with_reducible repeat (first | refine kN ?_ _ | refine kD ?_ | refine kA ?_ _)); refine kR ?_ NB458_460.out _; (with_reducible repeat (first | refine kN ?_ _ | refine kD ?_ | refine kA ?_ _)); refine kR ?_ NB458_460.out _; (with_reducible repeat (first | refine kN ?_ _ | refine kD ?_ | refine kA ?_ _)); exact BK458.out⟩, ⟨by (with_reducible repeat (first | refine kN ?_ _ | refine kD ?_ | refine kA ?_ _)); refine kR ?_ NB459_460.out _; (with_reducible repeat (first | refine kN ?_ _ | refine kD ?_ | refine kA ?_ _)); refine kR ?_ NB459_460.out _; (with_reducible repeat (first | refine kN ?_ _ | refine kD ?_ | refine kA ?_ _)); refine kR ?_ NB459_460.out _; (with_reducible repeat (first | refine kN ?_ _ | refine kD ?_ | refine kA ?_ _)); refine kR ?_ NB459_460.out _; (with_reducible repeat (first | refine kN ?_ _ | refine kD ?_ | refine kA ?_ _)); refine kR ?_ NB459_460.out _; (with_reducible repeat (first | refine kN ?_ _ | refine kD ?_ | refine kA ?_ _)); refine kR ?_ NB459_460.out _; (with_reducible repeat (first | refine kN ?_ _ | refine kD ?_ | refine kA ?_ _)); refine kR ?_ NB459_460.out _; (with_reducible repeat (first | refine kN ?_ _ | refine kD ?_ | refine kA ?_ _)); refine kR ?_ NB459_460.out _; (with_reducible repeat (first | refine kN ?_ _ | refine kD ?_ | refine kA ?_ _)); exact BK459.out⟩, ⟨by (with_reducible repeat (first | refine kN ?_ _ | refine kD ?_ | refine kA ?_ _)); refine kP (cs := #[.int .i64 t449, .int .i64 t450, .int .u8 x459002_6, .int .i64 t452, .int .i64 t453, .int .i64 x459005_6, .int .i64 x459006_6, .bool false]) ?_ 7 _ rfl; (with_reducible repeat (first | refine kN ?_ _ | refine kD ?_ | refine kA ?_ _)); refine kP (cs := #[.int .i64 t449, .int .i64 t450, .int .u8 x459002_6, .int .i64 t452, .int .i64 t453, .int .i64 x459005_6, .int .i64 0, .bool false]) ?_ 6 _ rfl; (with_reducible repeat (first | refine kN ?_ _ | refine kD ?_ | refine kA ?_ _)); refine kP (cs := #[.int .i64 t449, .int .i64 t450, .int .u8 x459002_6, .int .i64 t452, .int .i64 t453, .int .i64 0, .int .i64 0, .bool false]) ?_ 5 _ rfl; (with_reducible repeat (first | refine kN ?_ _ | refine kD ?_ | refine kA ?_ _)); refine kP (cs := #[.int .i64 t449, .int .i64 t450, .int .u8 x459002_6, .int .i64 t452, .int .i64 0, .int .i64 0, .int .i64 0, .bool false]) ?_ 4 _ rfl; (with_reducible repeat (first | refine kN ?_ _ | refine kD ?_ | refine kA ?_ _)); refine kP (cs := #[.int .i64 t449, .int .i64 t450, .int .u8 x459002_6, .int .i64 0, .int .i64 0, .int .i64 0, .int .i64 0, .bool false]) ?_ 3 _ rfl; (with_reducible repeat (first | refine kN ?_ _ | refine kD ?_ | refine kA ?_ _)); refine kP (cs := #[.int .i64 t449, .int .i64 t450, .int .u8 0, .int .i64 0, .int .i64 0, .int .i64 0, .int .i64 0, .bool false]) ?_ 2 _ rfl; (with_reducible repeat (first | refine kN ?_ _ | refine kD ?_ | refine kA ?_ _)); refine kP (cs := #[.int .i64 t449, .int .i64 0, .int .u8 0, .int .i64 0, .int .i64 0, .int .i64 0, .int .i64 0, .bool false]) ?_ 1 _ rfl; (with_reducible repeat (first | refine kN ?_ _ | refine kD ?_ | refine kA ?_ _)); refine kP (cs := #[.int .i64 0, .int .i64 0, .int .u8 0, .int .i64 0, .int .i64 0, .int .i64 0, .int .i64 0, .bool false]) ?_ 0 _ rfl; (with_reducible repeat (first | refine kN ?_ _ | refine kD ?_ | refine kA ?_ _)); exact BK460.out⟩, ⟨by repeat (first | (with_reducible first | exact HB.out | apply kL | apply kM | apply kE | refine kS ?_ GE457.out | refine kS ?_ GE458.out | refine kS ?_ GE459.out | refine kS ?_ GE460.out) | exact HB.out)⟩⟩
   case rest =>
    clear HC28
    try clear c1
    try clear c2
    try clear p2
    try clear c3
    try clear c4
    try clear p6
    try clear c10
    try clear c12
    try clear c16
    try clear c17
    try clear c20
    try clear c20b0
    try clear c20b1
    try clear c21
    try clear c22
    try clear c26
    try clear c29
    try clear c30
    try clear c33
    try clear c34
    try clear c35
    try clear c37
    try clear c39
    try clear c39b0
    try clear c40
    try clear c41
    try clear c42
    try clear c44
    try clear c45
    try clear hcz10_0
    try clear hcz10_1
    try clear hcz10_2
    try clear hcz10_3
    try clear hcz10_4
    try clear hcz10_5
    try clear hcz10_6
    try clear hcz10_7
    try clear hcz13_0
    try clear hcz13_1
    try clear hcz13_2
    try clear hcz13_3
    try clear hcz13_4
    try clear hcz13_5
    try clear hcz13_6
    try clear hcz13_7
    try clear hcz14_0
    try clear hcz14_1
    try clear hcz14_2
    try clear hcz14_3
    try clear hcz14_4
    try clear hcz14_5
    try clear hcz14_6
    try clear hcz14_7
    try clear hcz18_0
    try clear hcz18_1
    try clear hcz18_2
    try clear hcz18_3
    try clear hcz18_4
    try clear hcz18_5
    try clear hcz18_6
    try clear hcz18_7
    try clear hcz19_0
    try clear hcz19_1
    try clear hcz19_2
    try clear hcz19_3
    try clear hcz19_4
    try clear hcz19_5
    try clear hcz19_6
    try clear hcz19_7
    try clear hcz23_0
    try clear hcz23_1
    try clear hcz23_2
    try clear hcz23_3
    try clear hcz23_4
    try clear hcz23_5
    try clear hcz23_6
    try clear hcz23_7
    try clear hcz25_0
    try clear hcz25_1
    try clear hcz25_2
    try clear hcz25_3
    try clear hcz25_4
    try clear hcz25_5
    try clear hcz25_6
    try clear hcz25_7
    try clear hcz27_0
    try clear hcz27_1
    try clear hcz27_2
    try clear hcz27_3
    try clear hcz27_4
    try clear hcz27_5
    try clear hcz27_6
    try clear hcz27_7
    try clear hcz31_0
    try clear hcz31_1
    try clear hcz31_2
    try clear hcz31_3
    try clear hcz31_4
    try clear hcz31_5
    try clear hcz31_6
    try clear hcz31_7
    try clear hcz36_0
    try clear hcz36_1
    try clear hcz36_2
    try clear hcz36_3
    try clear hcz36_4
    try clear hcz36_5
    try clear hcz36_6
    try clear hcz36_7
    try clear hcz38_0
    try clear hcz38_1
    try clear hcz38_2
    try clear hcz38_3
    try clear hcz38_4
    try clear hcz38_5
    try clear hcz38_6
    try clear hcz38_7
    try clear hcz43_0
    try clear hcz43_1
    try clear hcz43_2
    try clear hcz43_3
    try clear hcz43_4
    try clear hcz43_5
    try clear hcz43_6
    try clear hcz43_7
    try clear hcz46_0
    try clear hcz46_1
    try clear hcz46_2
    try clear hcz46_3
    try clear hcz46_4
    try clear hcz46_5
    try clear hcz46_6
    try clear hcz46_7
    try clear hfz10_0
    try clear hfz10_1
    try clear hfz10_2
    try clear hfz10_3
    try clear hfz10_4
    try clear hfz10_5
    try clear hfz10_6
    try clear hfz10_7
    try clear hfz13_0
    try clear hfz13_1
    try clear hfz13_2
    try clear hfz13_3
    try clear hfz13_4
    try clear hfz13_5
    try clear hfz13_6
    try clear hfz13_7
    try clear hfz14_0
    try clear hfz14_1
    try clear hfz14_2
    try clear hfz14_3
    try clear hfz14_4
    try clear hfz14_5
    try clear hfz14_6
    try clear hfz14_7
    try clear hfz18_0
    try clear hfz18_1
    try clear hfz18_2
    try clear hfz18_3
    try clear hfz18_4
    try clear hfz18_5
    try clear hfz18_6
    try clear hfz18_7
    try clear hfz19_0
    try clear hfz19_1
    try clear hfz19_2
    try clear hfz19_3
    try clear hfz19_4
    try clear hfz19_5
    try clear hfz19_6
    try clear hfz19_7
    try clear hfz23_0
    try clear hfz23_1
    try clear hfz23_2
    try clear hfz23_3
    try clear hfz23_4
    try clear hfz23_5
    try clear hfz23_6
    try clear hfz23_7
    try clear hfz25_0
    try clear hfz25_1
    try clear hfz25_2
    try clear hfz25_3
    try clear hfz25_4
    try clear hfz25_5
    try clear hfz25_6
    try clear hfz25_7
    try clear hfz27_0
    try clear hfz27_1
    try clear hfz27_2
    try clear hfz27_3
    try clear hfz27_4
    try clear hfz27_5
    try clear hfz27_6
    try clear hfz27_7
    try clear hfz31_0
    try clear hfz31_1
    try clear hfz31_2
    try clear hfz31_3
    try clear hfz31_4
    try clear hfz31_5
    try clear hfz31_6
    try clear hfz31_7
    try clear hfz36_0
    try clear hfz36_1
    try clear hfz36_2
    try clear hfz36_3
    try clear hfz36_4
    try clear hfz36_5
    try clear hfz36_6
    try clear hfz36_7
    try clear hfz38_0
    try clear hfz38_1
    try clear hfz38_2
    try clear hfz38_3
    try clear hfz38_4
    try clear hfz38_5
    try clear hfz38_6
    try clear hfz38_7
    try clear hfz43_0
    try clear hfz43_1
    try clear hfz43_2
    try clear hfz43_3
    try clear hfz43_4
    try clear hfz43_5
    try clear hfz43_6
    try clear hfz43_7
    try clear hfz46_0
    try clear hfz46_1
    try clear hfz46_2
    try clear hfz46_3
    try clear hfz46_4
    try clear hfz46_5
    try clear hfz46_6
    try clear hfz46_7
    try clear p2
    try clear p6
    obtain ⟨kq, x461000_27, x461001_27, x461002_27, x461003_27, x461004_27, x461005_27, x461006_27, x461007_27, HA, HJ27, BK457, BK458, BK459, BK460, HB⟩ := hcut
    cases kq with
    | zero => exact absurd HA.out (by simp [paybooklaw12_CycleWakes.j1])
    | succ kj27 =>
     have H := HA.out
     clear HA
     simp only [paybooklaw12_CycleWakes.j1] at H
     replace H := Option.bind_eq_some_iff.mp H
     obtain ⟨t461, A480, H⟩ := H
     replace H : (if t461 = true then ((cycle_Card.f t449 t450 t451 t452 t453 t454 t455 t456).bind fun bt462 => (if (bt462.1 == t449 && (bt462.2.1 == t450 && (bt462.2.2.1 == x459002_6 && (bt462.2.2.2.1 == t452 && (bt462.2.2.2.2.1 == t453 && (bt462.2.2.2.2.2.1 == x459005_6 && (bt462.2.2.2.2.2.2.1 == x459006_6 && (bt462.2.2.2.2.2.2.2 == t456)))))))) = true then ((cycle_Over.f t449 t450 t451 t452 t453 t454 t455 t456).bind fun bt470 => (if (bt470.1 == t449 && (bt470.2.1 == t450 && (bt470.2.2.1 == x460002_6 && (bt470.2.2.2.1 == t452 && (bt470.2.2.2.2.1 == t453 && (bt470.2.2.2.2.2.1 == t454 && (bt470.2.2.2.2.2.2.1 == x460006_6 && (bt470.2.2.2.2.2.2.2 == t456)))))))) = true then ((cycle_Wake.f t449 t450 t451 t452 t453 t454 t455 t456 (wrap64 (a4))).bind fun bt478 => (some (bt478.1 == x461000_27 && (bt478.2.1 == x461001_27 && (bt478.2.2.1 == x461002_27 && (bt478.2.2.2.1 == x461003_27 && (bt478.2.2.2.2.1 == x461004_27 && (bt478.2.2.2.2.2.1 == x461005_27 && (bt478.2.2.2.2.2.2.1 == x461006_27 && (bt478.2.2.2.2.2.2.2 == x461007_27)))))))))) else (some false))) else (some false))) else (some false)) = some true := H
     have A48 := Aside0.mk A480
     clear A480
     by_cases c49 : t461 = true
     ·subst c49
      have H1 : ((cycle_Card.f t449 t450 t451 t452 t453 t454 t455 t456).bind fun bt462 => (if (bt462.1 == t449 && (bt462.2.1 == t450 && (bt462.2.2.1 == x459002_6 && (bt462.2.2.2.1 == t452 && (bt462.2.2.2.2.1 == t453 && (bt462.2.2.2.2.2.1 == x459005_6 && (bt462.2.2.2.2.2.2.1 == x459006_6 && (bt462.2.2.2.2.2.2.2 == t456)))))))) = true then ((cycle_Over.f t449 t450 t451 t452 t453 t454 t455 t456).bind fun bt470 => (if (bt470.1 == t449 && (bt470.2.1 == t450 && (bt470.2.2.1 == x460002_6 && (bt470.2.2.2.1 == t452 && (bt470.2.2.2.2.1 == t453 && (bt470.2.2.2.2.2.1 == t454 && (bt470.2.2.2.2.2.2.1 == x460006_6 && (bt470.2.2.2.2.2.2.2 == t456)))))))) = true then ((cycle_Wake.f t449 t450 t451 t452 t453 t454 t455 t456 (wrap64 (a4))).bind fun bt478 => (some (bt478.1 == x461000_27 && (bt478.2.1 == x461001_27 && (bt478.2.2.1 == x461002_27 && (bt478.2.2.2.1 == x461003_27 && (bt478.2.2.2.2.1 == x461004_27 && (bt478.2.2.2.2.2.1 == x461005_27 && (bt478.2.2.2.2.2.2.1 == x461006_27 && (bt478.2.2.2.2.2.2.2 == x461007_27)))))))))) else (some false))) else (some false))) = some true := by rw [if_pos rfl] at H; try exact H
      clear H
      have H := H1
      clear H1
      replace H := Option.bind_eq_some_iff.mp H
      obtain ⟨⟨t462, t463, t464, t465, t466, t467, t468, t469⟩, A500, H⟩ := H
      replace H : (if (t462 == t449 && (t463 == t450 && (t464 == x459002_6 && (t465 == t452 && (t466 == t453 && (t467 == x459005_6 && (t468 == x459006_6 && (t469 == t456)))))))) = true then ((cycle_Over.f t449 t450 t451 t452 t453 t454 t455 t456).bind fun bt470 => (if (bt470.1 == t449 && (bt470.2.1 == t450 && (bt470.2.2.1 == x460002_6 && (bt470.2.2.2.1 == t452 && (bt470.2.2.2.2.1 == t453 && (bt470.2.2.2.2.2.1 == t454 && (bt470.2.2.2.2.2.2.1 == x460006_6 && (bt470.2.2.2.2.2.2.2 == t456)))))))) = true then ((cycle_Wake.f t449 t450 t451 t452 t453 t454 t455 t456 (wrap64 (a4))).bind fun bt478 => (some (bt478.1 == x461000_27 && (bt478.2.1 == x461001_27 && (bt478.2.2.1 == x461002_27 && (bt478.2.2.2.1 == x461003_27 && (bt478.2.2.2.2.1 == x461004_27 && (bt478.2.2.2.2.2.1 == x461005_27 && (bt478.2.2.2.2.2.2.1 == x461006_27 && (bt478.2.2.2.2.2.2.2 == x461007_27)))))))))) else (some false))) else (some false)) = some true := H
      have A50 := Aside0.mk A500
      clear A500
      by_cases c51 : (t462 == t449 && (t463 == t450 && (t464 == x459002_6 && (t465 == t452 && (t466 == t453 && (t467 == x459005_6 && (t468 == x459006_6 && (t469 == t456)))))))) = true
      ·rw [if_pos c51] at H
       have c51b0 : (t462 == t449 && (t463 == t450 && (t464 == x459002_6 && (t465 == t452 && (t466 == t453 && (t467 == x459005_6 && (t468 == x459006_6 && (t469 == t456)))))))) = true := c51
       (try (have c51b1 : decide (t462 = t449 && (t463 == t450 && (t464 == x459002_6 && (t465 == t452 && (t466 == t453 && (t467 == x459005_6 && (t468 == x459006_6 && (t469 == t456)))))))) = true := by simpa using c51))
       (try (have c51b2 : (t462 == t449 && (t463 == t450 && (t464 == x459002_6 && (t465 == t452 && (t466 == t453 && (t467 == x459005_6 && (t468 == x459006_6 && (t469 == t456)))))))) = true := by simpa using c51))
       clear c51
       replace H := Option.bind_eq_some_iff.mp H
       obtain ⟨⟨t470, t471, t472, t473, t474, t475, t476, t477⟩, A520, H⟩ := H
       replace H : (if (t470 == t449 && (t471 == t450 && (t472 == x460002_6 && (t473 == t452 && (t474 == t453 && (t475 == t454 && (t476 == x460006_6 && (t477 == t456)))))))) = true then ((cycle_Wake.f t449 t450 t451 t452 t453 t454 t455 t456 (wrap64 (a4))).bind fun bt478 => (some (bt478.1 == x461000_27 && (bt478.2.1 == x461001_27 && (bt478.2.2.1 == x461002_27 && (bt478.2.2.2.1 == x461003_27 && (bt478.2.2.2.2.1 == x461004_27 && (bt478.2.2.2.2.2.1 == x461005_27 && (bt478.2.2.2.2.2.2.1 == x461006_27 && (bt478.2.2.2.2.2.2.2 == x461007_27)))))))))) else (some false)) = some true := H
       have A52 := Aside0.mk A520
       clear A520
       by_cases c53 : (t470 == t449 && (t471 == t450 && (t472 == x460002_6 && (t473 == t452 && (t474 == t453 && (t475 == t454 && (t476 == x460006_6 && (t477 == t456)))))))) = true
       ·rw [if_pos c53] at H
        have c53b0 : (t470 == t449 && (t471 == t450 && (t472 == x460002_6 && (t473 == t452 && (t474 == t453 && (t475 == t454 && (t476 == x460006_6 && (t477 == t456)))))))) = true := c53
        (try (have c53b1 : decide (t470 = t449 && (t471 == t450 && (t472 == x460002_6 && (t473 == t452 && (t474 == t453 && (t475 == t454 && (t476 == x460006_6 && (t477 == t456)))))))) = true := by simpa using c53))
        (try (have c53b2 : (t470 == t449 && (t471 == t450 && (t472 == x460002_6 && (t473 == t452 && (t474 == t453 && (t475 == t454 && (t476 == x460006_6 && (t477 == t456)))))))) = true := by simpa using c53))
        clear c53
        replace H := Option.bind_eq_some_iff.mp H
        obtain ⟨⟨t478, t479, t480, t481, t482, t483, t484, t485⟩, A540, H⟩ := H
        replace H : (some (t478 == x461000_27 && (t479 == x461001_27 && (t480 == x461002_27 && (t481 == x461003_27 && (t482 == x461004_27 && (t483 == x461005_27 && (t484 == x461006_27 && (t485 == x461007_27))))))))) = some true := H
        have A54 := Aside0.mk A540
        clear A540
        have HT_ := Option.some.inj H
        clear H
        (try (have HT_z_ := HT_; simp only [beq_true, beq_false, true_beq, false_beq, Bool.not_eq_true', Bool.not_eq_false', Bool.not_true, Bool.not_false] at HT_z_))
        try go_wp2
        have n0_ := Aside0.mk (kD BK457.out)
        have n1_ := Aside0.mk (kD BK458.out)
        have n2_ := Aside0.mk (kD BK459.out)
        have n3_ := Aside0.mk (kD BK460.out)
        have n4_ := Aside0.mk (kE HB.out)
        clear BK457
        clear BK458
        clear BK459
        clear BK460
        clear HB
        have BK457 := n0_
        have BK458 := n1_
        have BK459 := n2_
        have BK460 := n3_
        have HB := n4_
        clear n0_ n1_ n2_ n3_ n4_
        refine start_ (n := 22) (S := fun w' => w'.cell? ⟨gb457, 0, none⟩ = some (.int .i64 t449) ∧ w'.cell? ⟨gb457, 1, none⟩ = some (.int .i64 t450) ∧ w'.cell? ⟨gb457, 2, none⟩ = some (.int .u8 t451) ∧ w'.cell? ⟨gb457, 3, none⟩ = some (.int .i64 t452) ∧ w'.cell? ⟨gb457, 4, none⟩ = some (.int .i64 t453) ∧ w'.cell? ⟨gb457, 5, none⟩ = some (.int .i64 t454) ∧ w'.cell? ⟨gb457, 6, none⟩ = some (.int .i64 t455) ∧ w'.cell? ⟨gb457, 7, none⟩ = some (.bool t456) ∧ w'.cell? ⟨gb458, 0, none⟩ = some (.int .i64 t449) ∧ w'.cell? ⟨gb458, 1, none⟩ = some (.int .i64 t450) ∧ w'.cell? ⟨gb458, 2, none⟩ = some (.int .u8 x459002_6) ∧ w'.cell? ⟨gb458, 3, none⟩ = some (.int .i64 t452) ∧ w'.cell? ⟨gb458, 4, none⟩ = some (.int .i64 t453) ∧ w'.cell? ⟨gb458, 5, none⟩ = some (.int .i64 x459005_6) ∧ w'.cell? ⟨gb458, 6, none⟩ = some (.int .i64 x459006_6) ∧ w'.cell? ⟨gb458, 7, none⟩ = some (.bool t456) ∧ w'.cell? ⟨gb459, 0, none⟩ = some (.int .i64 t449) ∧ w'.cell? ⟨gb459, 1, none⟩ = some (.int .i64 t450) ∧ w'.cell? ⟨gb459, 2, none⟩ = some (.int .u8 x460002_6) ∧ w'.cell? ⟨gb459, 3, none⟩ = some (.int .i64 t452) ∧ w'.cell? ⟨gb459, 4, none⟩ = some (.int .i64 t453) ∧ w'.cell? ⟨gb459, 5, none⟩ = some (.int .i64 t454) ∧ w'.cell? ⟨gb459, 6, none⟩ = some (.int .i64 x460006_6) ∧ w'.cell? ⟨gb459, 7, none⟩ = some (.bool t456) ∧ w'.cell? ⟨gb460, 0, none⟩ = some (.int .i64 x461000_27) ∧ w'.cell? ⟨gb460, 1, none⟩ = some (.int .i64 x461001_27) ∧ w'.cell? ⟨gb460, 2, none⟩ = some (.int .u8 x461002_27) ∧ w'.cell? ⟨gb460, 3, none⟩ = some (.int .i64 x461003_27) ∧ w'.cell? ⟨gb460, 4, none⟩ = some (.int .i64 x461004_27) ∧ w'.cell? ⟨gb460, 5, none⟩ = some (.int .i64 x461005_27) ∧ w'.cell? ⟨gb460, 6, none⟩ = some (.int .i64 x461006_27) ∧ w'.cell? ⟨gb460, 7, none⟩ = some (.bool x461007_27)) (ds := []) #[F,F,F,F,F,F,F,F,F,F,F,F,F,F,F,F,F,F,F,F,F,F] (by kernel_rfl) rfl rfl ⟨(kC BK457.out 0).trans rfl, (kC BK457.out 1).trans rfl, (kC BK457.out 2).trans rfl, (kC BK457.out 3).trans rfl, (kC BK457.out 4).trans rfl, (kC BK457.out 5).trans rfl, (kC BK457.out 6).trans rfl, (kC BK457.out 7).trans rfl, (kC BK458.out 0).trans rfl, (kC BK458.out 1).trans rfl, (kC BK458.out 2).trans rfl, (kC BK458.out 3).trans rfl, (kC BK458.out 4).trans rfl, (kC BK458.out 5).trans rfl, (kC BK458.out 6).trans rfl, (kC BK458.out 7).trans rfl, (kC BK459.out 0).trans rfl, (kC BK459.out 1).trans rfl, (kC BK459.out 2).trans rfl, (kC BK459.out 3).trans rfl, (kC BK459.out 4).trans rfl, (kC BK459.out 5).trans rfl, (kC BK459.out 6).trans rfl, (kC BK459.out 7).trans rfl, (kC BK460.out 0).trans rfl, (kC BK460.out 1).trans rfl, (kC BK460.out 2).trans rfl, (kC BK460.out 3).trans rfl, (kC BK460.out 4).trans rfl, (kC BK460.out 5).trans rfl, (kC BK460.out 6).trans rfl, (kC BK460.out 7).trans rfl⟩ (fun hHeld => ?_); refine with_tabW paybooklaw12_CycleWakes.tab13 paybooklaw12_CycleWakes.bits13 (fun HT_ HW_ => ?_)
        generalize wc.drew = w55 at BK457 BK458 BK459 BK460 HB hHeld ⊢
        refine one_ (i := 0) (N := some 40) #[T,F,F,F,F,F,F,F,F,F,F,F,F,F,F,F,F,F,F,F,F,F] rfl rfl (one_of HT_.out (by kernel_rfl)) (by decide) (fun K hK => ?_)
        refine goes_ Tryd.func15 (by kernel_rfl) rfl #[] (by rfl) rfl rfl (by (try simp only [List.map_toArray, List.map_cons, List.map_nil]); first | done | rfl | (simp only [List.length_drop, List.length_take]; rfl)) ?_
        with_reducible refine (paybooklaw12_awake.calls kj27  true _ ?side1 A48.out).mono ?_
        (case side1 => repeat (first | exact (Kd.C_below HRG0.out HB.out) | exact HRG0.out | (with_reducible refine Kd.C_alloc ?_ _) | (with_reducible refine Kd.C_drewN ?_ _) | (with_reducible refine Kd.C_drew ?_)))
        rintro e w56 ⟨rfl, hb⟩
        refine ⟨_, rfl, ?_⟩
        have n0_ := Aside0.mk (blk_below (g := gb457) (o := .cells #[.int .i64 t449, .int .i64 t450, .int .u8 t451, .int .i64 t452, .int .i64 t453, .int .i64 t454, .int .i64 t455, .bool t456] 25 (0, 0)) (by (with_reducible repeat (first | refine kN ?_ _ | refine kD ?_ | refine kA ?_ _)); exact BK457.out) hb)
        have n1_ := Aside0.mk (blk_below (g := gb458) (o := .cells #[.int .i64 t449, .int .i64 t450, .int .u8 x459002_6, .int .i64 t452, .int .i64 t453, .int .i64 x459005_6, .int .i64 x459006_6, .bool t456] 25 (0, 0)) (by (with_reducible repeat (first | refine kN ?_ _ | refine kD ?_ | refine kA ?_ _)); exact BK458.out) hb)
        have n2_ := Aside0.mk (blk_below (g := gb459) (o := .cells #[.int .i64 t449, .int .i64 t450, .int .u8 x460002_6, .int .i64 t452, .int .i64 t453, .int .i64 t454, .int .i64 x460006_6, .bool t456] 25 (0, 0)) (by (with_reducible repeat (first | refine kN ?_ _ | refine kD ?_ | refine kA ?_ _)); exact BK459.out) hb)
        have n3_ := Aside0.mk (blk_below (g := gb460) (o := .cells #[.int .i64 x461000_27, .int .i64 x461001_27, .int .u8 x461002_27, .int .i64 x461003_27, .int .i64 x461004_27, .int .i64 x461005_27, .int .i64 x461006_27, .bool x461007_27] 25 (0, 0)) (by (with_reducible repeat (first | refine kN ?_ _ | refine kD ?_ | refine kA ?_ _)); exact BK460.out) hb)
        have n4_ := Aside0.mk (below_step (by repeat (first | (with_reducible first | exact HB.out | apply kL | apply kM | apply kE | refine kS ?_ GE457.out | refine kS ?_ GE458.out | refine kS ?_ GE459.out | refine kS ?_ GE460.out) | exact HB.out)) hb)
        clear BK457
        clear BK458
        clear BK459
        clear BK460
        clear HB
        have BK457 := n0_
        have BK458 := n1_
        have BK459 := n2_
        have BK460 := n3_
        have HB := n4_
        clear n0_ n1_ n2_ n3_ n4_
        (try clear hb)
        (try clear hb2)
        (try clear hk)
        (try clear hi)
        refine hK.out _ _ ⟨(kC BK457.out 0).trans rfl, (kC BK457.out 1).trans rfl, (kC BK457.out 2).trans rfl, (kC BK457.out 3).trans rfl, (kC BK457.out 4).trans rfl, (kC BK457.out 5).trans rfl, (kC BK457.out 6).trans rfl, (kC BK457.out 7).trans rfl, (kC BK458.out 0).trans rfl, (kC BK458.out 1).trans rfl, (kC BK458.out 2).trans rfl, (kC BK458.out 3).trans rfl, (kC BK458.out 4).trans rfl, (kC BK458.out 5).trans rfl, (kC BK458.out 6).trans rfl, (kC BK458.out 7).trans rfl, (kC BK459.out 0).trans rfl, (kC BK459.out 1).trans rfl, (kC BK459.out 2).trans rfl, (kC BK459.out 3).trans rfl, (kC BK459.out 4).trans rfl, (kC BK459.out 5).trans rfl, (kC BK459.out 6).trans rfl, (kC BK459.out 7).trans rfl, (kC BK460.out 0).trans rfl, (kC BK460.out 1).trans rfl, (kC BK460.out 2).trans rfl, (kC BK460.out 3).trans rfl, (kC BK460.out 4).trans rfl, (kC BK460.out 5).trans rfl, (kC BK460.out 6).trans rfl, (kC BK460.out 7).trans rfl⟩ (fun hHeld => ?_)
        clear hK K
        refine norm_ (a' := ?_) ?_ ?_
        rotate_left
        ·show Act.put _ (some 40) _ = _
         simp only [Act.put, List.setIfInBounds_toArray, List.set_cons_zero, List.set_cons_succ, i64_w, i32_w]
         rfl
        refine pure_ (i := 1) (N := some 41) (v := ?_) (a' := ?_) #[T,T,F,F,F,F,F,F,F,F,F,F,F,F,F,F,F,F,F,F,F,F] rfl rfl (any_of HT_.out (by kernel_rfl)) (fun _ _ _ h => h) (Or.inl ⟨by rfl, ?_⟩) ?_ ?_
        rotate_left
        ·intro w'
         go_simp
         with_reducible rfl
        rotate_left
        ·simp only [Act.put, List.setIfInBounds_toArray, List.set_cons_zero, List.set_cons_succ, i64_w, i32_w]
         rfl
        refine take_ (i := 2) (N := some 42) (v := ?_) (a' := ?_) #[T,T,T,F,F,F,F,F,F,F,F,F,F,F,F,F,F,F,F,F,F,F] rfl rfl (take_ofW HT_.out HW_.out (by kernel_rfl)) (fun _ _ _ h => h) (Or.inl ⟨by rfl, ?_⟩) hHeld ?_ ?_
        rotate_left
        ·rintro w' ⟨s0, s1, s2, s3, s4, s5, s6, s7, s8, s9, s10, s11, s12, s13, s14, s15, s16, s17, s18, s19, s20, s21, s22, s23, s24, s25, s26, s27, s28, s29, s30, s31⟩
         go_simp
         with_reducible rfl
        rotate_left
        ·simp only [Act.put, List.setIfInBounds_toArray, List.set_cons_zero, List.set_cons_succ, i64_w, i32_w]
         rfl
        refine take_ (i := 4) (N := some 44) (v := ?_) (a' := ?_) #[T,T,T,F,T,F,F,F,F,F,F,F,F,F,F,F,F,F,F,F,F,F] rfl rfl (take_ofW HT_.out HW_.out (by kernel_rfl)) (fun _ _ _ h => h) (Or.inl ⟨by rfl, ?_⟩) hHeld ?_ ?_
        rotate_left
        ·rintro w' ⟨s0, s1, s2, s3, s4, s5, s6, s7, s8, s9, s10, s11, s12, s13, s14, s15, s16, s17, s18, s19, s20, s21, s22, s23, s24, s25, s26, s27, s28, s29, s30, s31⟩
         go_simp
         with_reducible rfl
        rotate_left
        ·simp only [Act.put, List.setIfInBounds_toArray, List.set_cons_zero, List.set_cons_succ, i64_w, i32_w]
         rfl
        refine one_ (i := 3) (N := some 43) #[T,T,T,T,T,F,F,F,F,F,F,F,F,F,F,F,F,F,F,F,F,F] rfl rfl (one_of HT_.out (by kernel_rfl)) (by decide) (fun K hK => ?_)
        refine goes_ Tryd.func23 (by kernel_rfl) rfl #[.agg #[.int .i64 t449, .int .i64 t450, .int .u8 t451, .int .i64 t452, .int .i64 t453, .int .i64 t454, .int .i64 t455, .bool t456]] (by rfl) rfl rfl (by (try simp only [List.map_toArray, List.map_cons, List.map_nil]); first | done | rfl | (simp only [List.length_drop, List.length_take]; rfl)) ?_
        with_reducible refine (cycle_Card.calls t449 t450 t451 t452 t453 t454 t455 t456 t462 t463 t464 t465 t466 t467 t468 t469 _ A50.out).mono ?_
        rintro e w57 ⟨rfl, hb⟩
        refine ⟨_, rfl, ?_⟩
        have n0_ := Aside0.mk (blk_below (g := gb457) (o := .cells #[.int .i64 t449, .int .i64 t450, .int .u8 t451, .int .i64 t452, .int .i64 t453, .int .i64 t454, .int .i64 t455, .bool t456] 25 (0, 0)) (by (with_reducible repeat (first | refine kN ?_ _ | refine kD ?_ | refine kA ?_ _)); exact BK457.out) hb)
        have n1_ := Aside0.mk (blk_below (g := gb458) (o := .cells #[.int .i64 t449, .int .i64 t450, .int .u8 x459002_6, .int .i64 t452, .int .i64 t453, .int .i64 x459005_6, .int .i64 x459006_6, .bool t456] 25 (0, 0)) (by (with_reducible repeat (first | refine kN ?_ _ | refine kD ?_ | refine kA ?_ _)); exact BK458.out) hb)
        have n2_ := Aside0.mk (blk_below (g := gb459) (o := .cells #[.int .i64 t449, .int .i64 t450, .int .u8 x460002_6, .int .i64 t452, .int .i64 t453, .int .i64 t454, .int .i64 x460006_6, .bool t456] 25 (0, 0)) (by (with_reducible repeat (first | refine kN ?_ _ | refine kD ?_ | refine kA ?_ _)); exact BK459.out) hb)
        have n3_ := Aside0.mk (blk_below (g := gb460) (o := .cells #[.int .i64 x461000_27, .int .i64 x461001_27, .int .u8 x461002_27, .int .i64 x461003_27, .int .i64 x461004_27, .int .i64 x461005_27, .int .i64 x461006_27, .bool x461007_27] 25 (0, 0)) (by (with_reducible repeat (first | refine kN ?_ _ | refine kD ?_ | refine kA ?_ _)); exact BK460.out) hb)
        have n4_ := Aside0.mk (below_step (by repeat (first | (with_reducible first | exact HB.out | apply kL | apply kM | apply kE | refine kS ?_ GE457.out | refine kS ?_ GE458.out | refine kS ?_ GE459.out | refine kS ?_ GE460.out) | exact HB.out)) hb)
        clear BK457
        clear BK458
        clear BK459
        clear BK460
        clear HB
        have BK457 := n0_
        have BK458 := n1_
        have BK459 := n2_
        have BK460 := n3_
        have HB := n4_
        clear n0_ n1_ n2_ n3_ n4_
        (try clear hb)
        (try clear hb2)
        (try clear hk)
        (try clear hi)
        refine hK.out _ _ ⟨(kC BK457.out 0).trans rfl, (kC BK457.out 1).trans rfl, (kC BK457.out 2).trans rfl, (kC BK457.out 3).trans rfl, (kC BK457.out 4).trans rfl, (kC BK457.out 5).trans rfl, (kC BK457.out 6).trans rfl, (kC BK457.out 7).trans rfl, (kC BK458.out 0).trans rfl, (kC BK458.out 1).trans rfl, (kC BK458.out 2).trans rfl, (kC BK458.out 3).trans rfl, (kC BK458.out 4).trans rfl, (kC BK458.out 5).trans rfl, (kC BK458.out 6).trans rfl, (kC BK458.out 7).trans rfl, (kC BK459.out 0).trans rfl, (kC BK459.out 1).trans rfl, (kC BK459.out 2).trans rfl, (kC BK459.out 3).trans rfl, (kC BK459.out 4).trans rfl, (kC BK459.out 5).trans rfl, (kC BK459.out 6).trans rfl, (kC BK459.out 7).trans rfl, (kC BK460.out 0).trans rfl, (kC BK460.out 1).trans rfl, (kC BK460.out 2).trans rfl, (kC BK460.out 3).trans rfl, (kC BK460.out 4).trans rfl, (kC BK460.out 5).trans rfl, (kC BK460.out 6).trans rfl, (kC BK460.out 7).trans rfl⟩ (fun hHeld => ?_)
        clear hK K
        refine norm_ (a' := ?_) ?_ ?_
        rotate_left
        ·show Act.put _ (some 43) _ = _
         simp only [Act.put, List.setIfInBounds_toArray, List.set_cons_zero, List.set_cons_succ, i64_w, i32_w]
         rfl
        refine pure_ (i := 5) (N := some 45) (v := ?_) (a' := ?_) #[T,T,T,T,T,T,F,F,F,F,F,F,F,F,F,F,F,F,F,F,F,F] rfl rfl (any_of HT_.out (by kernel_rfl)) (fun _ _ _ h => h) (Or.inl ⟨by rfl, ?_⟩) ?_ ?_
        rotate_left
        ·intro w'
         go_simp
         with_reducible rfl
        rotate_left
        ·simp only [Act.put, List.setIfInBounds_toArray, List.set_cons_zero, List.set_cons_succ, i64_w, i32_w]
         rfl
        refine pure_ (i := 6) (N := some 46) (v := ?_) (a' := ?_) #[T,T,T,T,T,T,T,F,F,F,F,F,F,F,F,F,F,F,F,F,F,F] rfl rfl (any_of HT_.out (by kernel_rfl)) (fun _ _ _ h => h) (Or.inl ⟨by rfl, ?_⟩) ?_ ?_
        rotate_left
        ·intro w'
         go_simp
         with_reducible rfl
        rotate_left
        ·simp only [Act.put, List.setIfInBounds_toArray, List.set_cons_zero, List.set_cons_succ, i64_w, i32_w]
         rfl
        refine pure_ (i := 7) (N := some 47) (v := ?_) (a' := ?_) #[T,T,T,T,T,T,T,T,F,F,F,F,F,F,F,F,F,F,F,F,F,F] rfl rfl (any_of HT_.out (by kernel_rfl)) (fun _ _ _ h => h) (Or.inl ⟨by rfl, ?_⟩) ?_ ?_
        rotate_left
        ·intro w'
         go_simp
         with_reducible rfl
        rotate_left
        ·simp only [Act.put, List.setIfInBounds_toArray, List.set_cons_zero, List.set_cons_succ, i64_w, i32_w]
         rfl
        refine take_ (i := 8) (N := some 48) (v := ?_) (a' := ?_) #[T,T,T,T,T,T,T,T,T,F,F,F,F,F,F,F,F,F,F,F,F,F] rfl rfl (take_ofW HT_.out HW_.out (by kernel_rfl)) (fun _ _ _ h => h) (Or.inl ⟨by rfl, ?_⟩) hHeld ?_ ?_
        rotate_left
        ·rintro w' ⟨s0, s1, s2, s3, s4, s5, s6, s7, s8, s9, s10, s11, s12, s13, s14, s15, s16, s17, s18, s19, s20, s21, s22, s23, s24, s25, s26, s27, s28, s29, s30, s31⟩
         go_simp
         with_reducible rfl
        rotate_left
        ·simp only [Act.put, List.setIfInBounds_toArray, List.set_cons_zero, List.set_cons_succ, i64_w, i32_w]
         rfl
        refine take_ (i := 10) (N := some 50) (v := ?_) (a' := ?_) #[T,T,T,T,T,T,T,T,T,F,T,F,F,F,F,F,F,F,F,F,F,F] rfl rfl (take_ofW HT_.out HW_.out (by kernel_rfl)) (fun _ _ _ h => h) (Or.inl ⟨by rfl, ?_⟩) hHeld ?_ ?_
        rotate_left
        ·rintro w' ⟨s0, s1, s2, s3, s4, s5, s6, s7, s8, s9, s10, s11, s12, s13, s14, s15, s16, s17, s18, s19, s20, s21, s22, s23, s24, s25, s26, s27, s28, s29, s30, s31⟩
         go_simp
         with_reducible rfl
        rotate_left
        ·simp only [Act.put, List.setIfInBounds_toArray, List.set_cons_zero, List.set_cons_succ, i64_w, i32_w]
         rfl
        refine one_ (i := 9) (N := some 49) #[T,T,T,T,T,T,T,T,T,T,T,F,F,F,F,F,F,F,F,F,F,F] rfl rfl (one_of HT_.out (by kernel_rfl)) (by decide) (fun K hK => ?_)
        refine goes_ Tryd.func27 (by kernel_rfl) rfl #[.agg #[.int .i64 t449, .int .i64 t450, .int .u8 t451, .int .i64 t452, .int .i64 t453, .int .i64 t454, .int .i64 t455, .bool t456]] (by rfl) rfl rfl (by (try simp only [List.map_toArray, List.map_cons, List.map_nil]); first | done | rfl | (simp only [List.length_drop, List.length_take]; rfl)) ?_
        with_reducible refine (cycle_Over.calls t449 t450 t451 t452 t453 t454 t455 t456 t470 t471 t472 t473 t474 t475 t476 t477 _ A52.out).mono ?_
        rintro e w58 ⟨rfl, hb⟩
        refine ⟨_, rfl, ?_⟩
        have n0_ := Aside0.mk (blk_below (g := gb457) (o := .cells #[.int .i64 t449, .int .i64 t450, .int .u8 t451, .int .i64 t452, .int .i64 t453, .int .i64 t454, .int .i64 t455, .bool t456] 25 (0, 0)) (by (with_reducible repeat (first | refine kN ?_ _ | refine kD ?_ | refine kA ?_ _)); exact BK457.out) hb)
        have n1_ := Aside0.mk (blk_below (g := gb458) (o := .cells #[.int .i64 t449, .int .i64 t450, .int .u8 x459002_6, .int .i64 t452, .int .i64 t453, .int .i64 x459005_6, .int .i64 x459006_6, .bool t456] 25 (0, 0)) (by (with_reducible repeat (first | refine kN ?_ _ | refine kD ?_ | refine kA ?_ _)); exact BK458.out) hb)
        have n2_ := Aside0.mk (blk_below (g := gb459) (o := .cells #[.int .i64 t449, .int .i64 t450, .int .u8 x460002_6, .int .i64 t452, .int .i64 t453, .int .i64 t454, .int .i64 x460006_6, .bool t456] 25 (0, 0)) (by (with_reducible repeat (first | refine kN ?_ _ | refine kD ?_ | refine kA ?_ _)); exact BK459.out) hb)
        have n3_ := Aside0.mk (blk_below (g := gb460) (o := .cells #[.int .i64 x461000_27, .int .i64 x461001_27, .int .u8 x461002_27, .int .i64 x461003_27, .int .i64 x461004_27, .int .i64 x461005_27, .int .i64 x461006_27, .bool x461007_27] 25 (0, 0)) (by (with_reducible repeat (first | refine kN ?_ _ | refine kD ?_ | refine kA ?_ _)); exact BK460.out) hb)
        have n4_ := Aside0.mk (below_step (by repeat (first | (with_reducible first | exact HB.out | apply kL | apply kM | apply kE | refine kS ?_ GE457.out | refine kS ?_ GE458.out | refine kS ?_ GE459.out | refine kS ?_ GE460.out) | exact HB.out)) hb)
        clear BK457
        clear BK458
        clear BK459
        clear BK460
        clear HB
        have BK457 := n0_
        have BK458 := n1_
        have BK459 := n2_
        have BK460 := n3_
        have HB := n4_
        clear n0_ n1_ n2_ n3_ n4_
        (try clear hb)
        (try clear hb2)
        (try clear hk)
        (try clear hi)
        refine hK.out _ _ ⟨(kC BK457.out 0).trans rfl, (kC BK457.out 1).trans rfl, (kC BK457.out 2).trans rfl, (kC BK457.out 3).trans rfl, (kC BK457.out 4).trans rfl, (kC BK457.out 5).trans rfl, (kC BK457.out 6).trans rfl, (kC BK457.out 7).trans rfl, (kC BK458.out 0).trans rfl, (kC BK458.out 1).trans rfl, (kC BK458.out 2).trans rfl, (kC BK458.out 3).trans rfl, (kC BK458.out 4).trans rfl, (kC BK458.out 5).trans rfl, (kC BK458.out 6).trans rfl, (kC BK458.out 7).trans rfl, (kC BK459.out 0).trans rfl, (kC BK459.out 1).trans rfl, (kC BK459.out 2).trans rfl, (kC BK459.out 3).trans rfl, (kC BK459.out 4).trans rfl, (kC BK459.out 5).trans rfl, (kC BK459.out 6).trans rfl, (kC BK459.out 7).trans rfl, (kC BK460.out 0).trans rfl, (kC BK460.out 1).trans rfl, (kC BK460.out 2).trans rfl, (kC BK460.out 3).trans rfl, (kC BK460.out 4).trans rfl, (kC BK460.out 5).trans rfl, (kC BK460.out 6).trans rfl, (kC BK460.out 7).trans rfl⟩ (fun hHeld => ?_)
        clear hK K
        refine norm_ (a' := ?_) ?_ ?_
        rotate_left
        ·show Act.put _ (some 49) _ = _
         simp only [Act.put, List.setIfInBounds_toArray, List.set_cons_zero, List.set_cons_succ, i64_w, i32_w]
         rfl
        refine pure_ (i := 11) (N := some 51) (v := ?_) (a' := ?_) #[T,T,T,T,T,T,T,T,T,T,T,T,F,F,F,F,F,F,F,F,F,F] rfl rfl (any_of HT_.out (by kernel_rfl)) (fun _ _ _ h => h) (Or.inl ⟨by rfl, ?_⟩) ?_ ?_
        rotate_left
        ·intro w'
         go_simp
         with_reducible rfl
        rotate_left
        ·simp only [Act.put, List.setIfInBounds_toArray, List.set_cons_zero, List.set_cons_succ, i64_w, i32_w]
         rfl
        refine pure_ (i := 12) (N := some 52) (v := ?_) (a' := ?_) #[T,T,T,T,T,T,T,T,T,T,T,T,T,F,F,F,F,F,F,F,F,F] rfl rfl (any_of HT_.out (by kernel_rfl)) (fun _ _ _ h => h) (Or.inl ⟨by rfl, ?_⟩) ?_ ?_
        rotate_left
        ·intro w'
         go_simp
         with_reducible rfl
        rotate_left
        ·simp only [Act.put, List.setIfInBounds_toArray, List.set_cons_zero, List.set_cons_succ, i64_w, i32_w]
         rfl
        refine pure_ (i := 13) (N := some 53) (v := ?_) (a' := ?_) #[T,T,T,T,T,T,T,T,T,T,T,T,T,T,F,F,F,F,F,F,F,F] rfl rfl (any_of HT_.out (by kernel_rfl)) (fun _ _ _ h => h) (Or.inl ⟨by rfl, ?_⟩) ?_ ?_
        rotate_left
        ·intro w'
         go_simp
         with_reducible rfl
        rotate_left
        ·simp only [Act.put, List.setIfInBounds_toArray, List.set_cons_zero, List.set_cons_succ, i64_w, i32_w]
         rfl
        refine pure_ (i := 15) (N := some 55) (v := ?_) (a' := ?_) #[T,T,T,T,T,T,T,T,T,T,T,T,T,T,F,T,F,F,F,F,F,F] rfl rfl (any_of HT_.out (by kernel_rfl)) (fun _ _ _ h => h) (Or.inl ⟨by rfl, ?_⟩) ?_ ?_
        rotate_left
        ·intro w'
         go_simp
         with_reducible rfl
        rotate_left
        ·simp only [Act.put, List.setIfInBounds_toArray, List.set_cons_zero, List.set_cons_succ, i64_w, i32_w]
         rfl
        refine pure_ (i := 16) (N := some 56) (v := ?_) (a' := ?_) #[T,T,T,T,T,T,T,T,T,T,T,T,T,T,F,T,T,F,F,F,F,F] rfl rfl (any_of HT_.out (by kernel_rfl)) (fun _ _ _ h => h) (Or.inl ⟨by rfl, ?_⟩) ?_ ?_
        rotate_left
        ·intro w'
         go_simp
         with_reducible rfl
        rotate_left
        ·simp only [Act.put, List.setIfInBounds_toArray, List.set_cons_zero, List.set_cons_succ, i64_w, i32_w]
         rfl
        refine take_ (i := 14) (N := some 54) (v := ?_) (a' := ?_) #[T,T,T,T,T,T,T,T,T,T,T,T,T,T,T,T,T,F,F,F,F,F] rfl rfl (take_ofW HT_.out HW_.out (by kernel_rfl)) (fun _ _ _ h => h) (Or.inl ⟨by rfl, ?_⟩) hHeld ?_ ?_
        rotate_left
        ·rintro w' ⟨s0, s1, s2, s3, s4, s5, s6, s7, s8, s9, s10, s11, s12, s13, s14, s15, s16, s17, s18, s19, s20, s21, s22, s23, s24, s25, s26, s27, s28, s29, s30, s31⟩
         go_simp
         with_reducible rfl
        rotate_left
        ·simp only [Act.put, List.setIfInBounds_toArray, List.set_cons_zero, List.set_cons_succ, i64_w, i32_w]
         rfl
        refine take_ (i := 18) (N := some 58) (v := ?_) (a' := ?_) #[T,T,T,T,T,T,T,T,T,T,T,T,T,T,T,T,T,F,T,F,F,F] rfl rfl (take_ofW HT_.out HW_.out (by kernel_rfl)) (fun _ _ _ h => h) (Or.inl ⟨by rfl, ?_⟩) hHeld ?_ ?_
        rotate_left
        ·rintro w' ⟨s0, s1, s2, s3, s4, s5, s6, s7, s8, s9, s10, s11, s12, s13, s14, s15, s16, s17, s18, s19, s20, s21, s22, s23, s24, s25, s26, s27, s28, s29, s30, s31⟩
         go_simp
         with_reducible rfl
        rotate_left
        ·simp only [Act.put, List.setIfInBounds_toArray, List.set_cons_zero, List.set_cons_succ, i64_w, i32_w]
         rfl
        refine one_ (i := 17) (N := some 57) #[T,T,T,T,T,T,T,T,T,T,T,T,T,T,T,T,T,T,T,F,F,F] rfl rfl (one_of HT_.out (by kernel_rfl)) (by decide) (fun K hK => ?_)
        refine goes_ Tryd.func26 (by kernel_rfl) rfl #[.agg #[.int .i64 t449, .int .i64 t450, .int .u8 t451, .int .i64 t452, .int .i64 t453, .int .i64 t454, .int .i64 t455, .bool t456], .int .i64 (wrap64 (a4))] (by rfl) rfl rfl (by (try simp only [List.map_toArray, List.map_cons, List.map_nil]); first | done | rfl | (simp only [List.length_drop, List.length_take]; rfl)) ?_
        with_reducible refine (cycle_Wake.calls t449 t450 t451 t452 t453 t454 t455 t456 (wrap64 (a4)) t478 t479 t480 t481 t482 t483 t484 t485 _ A54.out).mono ?_
        rintro e w59 ⟨rfl, hb⟩
        refine ⟨_, rfl, ?_⟩
        have n0_ := Aside0.mk (blk_below (g := gb457) (o := .cells #[.int .i64 t449, .int .i64 t450, .int .u8 t451, .int .i64 t452, .int .i64 t453, .int .i64 t454, .int .i64 t455, .bool t456] 25 (0, 0)) (by (with_reducible repeat (first | refine kN ?_ _ | refine kD ?_ | refine kA ?_ _)); exact BK457.out) hb)
        have n1_ := Aside0.mk (blk_below (g := gb458) (o := .cells #[.int .i64 t449, .int .i64 t450, .int .u8 x459002_6, .int .i64 t452, .int .i64 t453, .int .i64 x459005_6, .int .i64 x459006_6, .bool t456] 25 (0, 0)) (by (with_reducible repeat (first | refine kN ?_ _ | refine kD ?_ | refine kA ?_ _)); exact BK458.out) hb)
        have n2_ := Aside0.mk (blk_below (g := gb459) (o := .cells #[.int .i64 t449, .int .i64 t450, .int .u8 x460002_6, .int .i64 t452, .int .i64 t453, .int .i64 t454, .int .i64 x460006_6, .bool t456] 25 (0, 0)) (by (with_reducible repeat (first | refine kN ?_ _ | refine kD ?_ | refine kA ?_ _)); exact BK459.out) hb)
        have n3_ := Aside0.mk (blk_below (g := gb460) (o := .cells #[.int .i64 x461000_27, .int .i64 x461001_27, .int .u8 x461002_27, .int .i64 x461003_27, .int .i64 x461004_27, .int .i64 x461005_27, .int .i64 x461006_27, .bool x461007_27] 25 (0, 0)) (by (with_reducible repeat (first | refine kN ?_ _ | refine kD ?_ | refine kA ?_ _)); exact BK460.out) hb)
        have n4_ := Aside0.mk (below_step (by repeat (first | (with_reducible first | exact HB.out | apply kL | apply kM | apply kE | refine kS ?_ GE457.out | refine kS ?_ GE458.out | refine kS ?_ GE459.out | refine kS ?_ GE460.out) | exact HB.out)) hb)
        clear BK457
        clear BK458
        clear BK459
        clear BK460
        clear HB
        have BK457 := n0_
        have BK458 := n1_
        have BK459 := n2_
        have BK460 := n3_
        have HB := n4_
        clear n0_ n1_ n2_ n3_ n4_
        (try clear hb)
        (try clear hb2)
        (try clear hk)
        (try clear hi)
        refine hK.out _ _ ⟨(kC BK457.out 0).trans rfl, (kC BK457.out 1).trans rfl, (kC BK457.out 2).trans rfl, (kC BK457.out 3).trans rfl, (kC BK457.out 4).trans rfl, (kC BK457.out 5).trans rfl, (kC BK457.out 6).trans rfl, (kC BK457.out 7).trans rfl, (kC BK458.out 0).trans rfl, (kC BK458.out 1).trans rfl, (kC BK458.out 2).trans rfl, (kC BK458.out 3).trans rfl, (kC BK458.out 4).trans rfl, (kC BK458.out 5).trans rfl, (kC BK458.out 6).trans rfl, (kC BK458.out 7).trans rfl, (kC BK459.out 0).trans rfl, (kC BK459.out 1).trans rfl, (kC BK459.out 2).trans rfl, (kC BK459.out 3).trans rfl, (kC BK459.out 4).trans rfl, (kC BK459.out 5).trans rfl, (kC BK459.out 6).trans rfl, (kC BK459.out 7).trans rfl, (kC BK460.out 0).trans rfl, (kC BK460.out 1).trans rfl, (kC BK460.out 2).trans rfl, (kC BK460.out 3).trans rfl, (kC BK460.out 4).trans rfl, (kC BK460.out 5).trans rfl, (kC BK460.out 6).trans rfl, (kC BK460.out 7).trans rfl⟩ (fun hHeld => ?_)
        clear hK K
        refine norm_ (a' := ?_) ?_ ?_
        rotate_left
        ·show Act.put _ (some 57) _ = _
         simp only [Act.put, List.setIfInBounds_toArray, List.set_cons_zero, List.set_cons_succ, i64_w, i32_w]
         rfl
        refine pure_ (i := 19) (N := some 59) (v := ?_) (a' := ?_) #[T,T,T,T,T,T,T,T,T,T,T,T,T,T,T,T,T,T,T,T,F,F] rfl rfl (any_of HT_.out (by kernel_rfl)) (fun _ _ _ h => h) (Or.inl ⟨by rfl, ?_⟩) ?_ ?_
        rotate_left
        ·intro w'
         go_simp
         with_reducible rfl
        rotate_left
        ·simp only [Act.put, List.setIfInBounds_toArray, List.set_cons_zero, List.set_cons_succ, i64_w, i32_w]
         rfl
        refine pure_ (i := 20) (N := some 60) (v := ?_) (a' := ?_) #[T,T,T,T,T,T,T,T,T,T,T,T,T,T,T,T,T,T,T,T,T,F] rfl rfl (any_of HT_.out (by kernel_rfl)) (fun _ _ _ h => h) (Or.inl ⟨by rfl, ?_⟩) ?_ ?_
        rotate_left
        ·intro w'
         go_simp
         with_reducible rfl
        rotate_left
        ·simp only [Act.put, List.setIfInBounds_toArray, List.set_cons_zero, List.set_cons_succ, i64_w, i32_w]
         rfl
        refine pure_ (i := 21) (N := some 10) (v := ?_) (a' := ?_) #[T,T,T,T,T,T,T,T,T,T,T,T,T,T,T,T,T,T,T,T,T,T] rfl rfl (any_of HT_.out (by kernel_rfl)) (fun _ _ _ h => h) (Or.inl ⟨by rfl, ?_⟩) ?_ ?_
        rotate_left
        ·intro w'
         go_simp
         with_reducible rfl
        rotate_left
        ·simp only [Act.put, List.setIfInBounds_toArray, List.set_cons_zero, List.set_cons_succ, i64_w, i32_w]
         rfl
        refine done_ (done_of HT_.out (by kernel_rfl)) ?_
        try go_wp2
        go_ret
        exact ⟨by first | rfl | (simp [errW_none, errW_some] <;> rfl) | (simp [*, errW_none, errW_some] <;> rfl), by repeat (first | (with_reducible first | exact HB.out | apply kL | apply kM | apply kE | refine kS ?_ GE457.out | refine kS ?_ GE458.out | refine kS ?_ GE459.out | refine kS ?_ GE460.out) | exact HB.out)⟩
       ·rw [if_neg c53] at H
        have c53b0 : (t470 == t449 && (t471 == t450 && (t472 == x460002_6 && (t473 == t452 && (t474 == t453 && (t475 == t454 && (t476 == x460006_6 && (t477 == t456)))))))) = false := by simpa using c53
        (try (have c53b1 : decide (t470 = t449 && (t471 == t450 && (t472 == x460002_6 && (t473 == t452 && (t474 == t453 && (t475 == t454 && (t476 == x460006_6 && (t477 == t456)))))))) = false := by simpa using c53))
        (try (have c53b2 : (t470 == t449 && (t471 == t450 && (t472 == x460002_6 && (t473 == t452 && (t474 == t453 && (t475 == t454 && (t476 == x460006_6 && (t477 == t456)))))))) = false := by simpa using c53))
        (try (have c53b3 : ¬ (t470 = t449 && (t471 == t450 && (t472 == x460002_6 && (t473 == t452 && (t474 == t453 && (t475 == t454 && (t476 == x460006_6 && (t477 == t456)))))))) := by simpa using c53))
        clear c53
        exact absurd H (by simp)
      ·rw [if_neg c51] at H
       have c51b0 : (t462 == t449 && (t463 == t450 && (t464 == x459002_6 && (t465 == t452 && (t466 == t453 && (t467 == x459005_6 && (t468 == x459006_6 && (t469 == t456)))))))) = false := by simpa using c51
       (try (have c51b1 : decide (t462 = t449 && (t463 == t450 && (t464 == x459002_6 && (t465 == t452 && (t466 == t453 && (t467 == x459005_6 && (t468 == x459006_6 && (t469 == t456)))))))) = false := by simpa using c51))
       (try (have c51b2 : (t462 == t449 && (t463 == t450 && (t464 == x459002_6 && (t465 == t452 && (t466 == t453 && (t467 == x459005_6 && (t468 == x459006_6 && (t469 == t456)))))))) = false := by simpa using c51))
       (try (have c51b3 : ¬ (t462 = t449 && (t463 == t450 && (t464 == x459002_6 && (t465 == t452 && (t466 == t453 && (t467 == x459005_6 && (t468 == x459006_6 && (t469 == t456)))))))) := by simpa using c51))
       clear c51
       exact absurd H (by simp)
     ·replace c49 := Bool.eq_false_iff.mpr c49
      subst c49
      have H1 : (some false) = some true := by rw [if_neg (show ¬ (false = true) by decide)] at H; try exact H
      clear H
      have H := H1
      clear H1
      exact absurd H (by simp)

/-- THE ONE PURE STATEMENT of paybooklaw12_CycleWakes: yours. -/
def paybooklaw12_CycleWakes.Pure : Prop := ∀ (a0 : Int) (a1 : Int) (a2 : Int) (a3 : Int) (a4 : Int), (Lit.int .u8 a0).wf = true → (Lit.int .u32 a1).wf = true → (Lit.int .u8 a2).wf = true → (Lit.int .u16 a3).wf = true → (Lit.int .u16 a4).wf = true → ∃ k, paybooklaw12_CycleWakes.f k a0 a1 a2 a3 a4 = some true
theorem paybooklaw12_CycleWakes.walk (P : paybooklaw12_CycleWakes.Pure) (a0 : Int) (a1 : Int) (a2 : Int) (a3 : Int) (a4 : Int) (w : World) (w0 : (Lit.int .u8 a0).wf = true) (w1 : (Lit.int .u32 a1).wf = true) (w2 : (Lit.int .u8 a2).wf = true) (w3 : (Lit.int .u16 a3).wf = true) (w4 : (Lit.int .u16 a4).wf = true) (hrG0 : Kd.C (Kd.int .i64) w (some ⟨0, 0, none⟩) 3 gl0) :
  Calls Tryd.prog 10 #[.int .u8 a0, .int .u32 a1, .int .u8 a2, .int .u16 a3, .int .u16 a4] w fun e w' => e = .returned (.bool true) ∧ Below w.heap.size w w' := by
 obtain ⟨k, h⟩ := P a0 a1 a2 a3 a4 w0 w1 w2 w3 w4
 refine (paybooklaw12_CycleWakes.calls k a0 a1 a2 a3 a4 w hrG0 h).mono ?_
 rintro e w' ⟨rfl, hd⟩
 exact ⟨rfl, hd⟩

end Go.Proofs.YtlfaaogifplgeaaDoor.PA
