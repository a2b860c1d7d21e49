-- printed by this workplace: wip/patchprint.py over the kit's print
import Derived.Test.YtlfaaogifplgeaaDoorPAx0
import Derived.Test.YtlfaaogifplgeaaDoorPAx1
import Derived.Test.YtlfaaogifplgeaaDoorPAx2
import Derived.Test.YtlfaaogifplgeaaDoorPAx3
import Derived.Test.YtlfaaogifplgeaaDoorPAx4
import Derived.Test.YtlfaaogifplgeaaDoorPAx9
import Derived.Test.YtlfaaogifplgeaaDoorPAx11
namespace Go.Proofs.YtlfaaogifplgeaaDoor.PA
open Go.RowKit Go.Proofs.YtlfaaogifplgeaaDoorW.PrintWords Go.Proofs.YtlfaaogifplgeaaDoorW.PrintLast Go.Proofs.YtlfaaogifplgeaaDoorW.PrintMore
attribute [local go_sem] max2_int min2_int max_two min_two max_three min_three max_four min_four   -- for this text's walks alone
set_option linter.unusedVariables false
set_option linter.unusedSimpArgs false

attribute [local go_sem high] eqA25 eqA28
/-! ### paybooklaw12_CycleOld: function 5 -/
mutual
def paybooklaw12_CycleOld.j0 : Nat → Int → Int → Bool → Bool → Bool → Int → Int → Int → Int → Int → Int → Int → Int → Int → Int → Int → Int → Int → Bool → Int → Int → Int → Int → Int → Int → Option (Bool)
 | 0, _, _, _, _, _, _, _, _, _, _, _, _, _, _, _, _, _, _, _, _, _, _, _, _, _ => none
 | k + 1, x4, x5, x6, x17, x35, x324000, x324001, x324002, x324003, x324004, x324005, x333000, x333001, x333002, x333003, x333004, x333005, x333006, x333007, x341000, x341001, x341002, x341003, x341004, x341005 => if x35 = true then (if (Int.tmod x4 6) = 0 then (paybooklaw12_CycleOld.j1 k x5 x6 x17 x341000 (wrap64 (x341001 + 1)) x341002 x341003 x341004 1 x333000 x333001 x333002 x333003 x333004 x333005 x333006 x333007 x341000 x341001 x341002 x341003 x341004 x341005) else (if (Int.tmod x4 6) = 1 then (paybooklaw12_CycleOld.j1 k x5 x6 x17 x341000 x341001 (wrap64 (x341002 + 1)) x341003 x341004 1 x333000 x333001 x333002 x333003 x333004 x333005 x333006 x333007 x341000 x341001 x341002 x341003 x341004 x341005) else (if (Int.tmod x4 6) = 2 then (paybooklaw12_CycleOld.j1 k x5 x6 x17 x341000 x341001 x341002 (wrap64 (x341003 + 1)) x341004 1 x333000 x333001 x333002 x333003 x333004 x333005 x333006 x333007 x341000 x341001 x341002 x341003 x341004 x341005) else (if (Int.tmod x4 6) = 3 then (paybooklaw12_CycleOld.j1 k x5 x6 x17 x341000 x341001 x341002 x341003 (wrap64 (x341004 + 1)) 1 x333000 x333001 x333002 x333003 x333004 x333005 x333006 x333007 x341000 x341001 x341002 x341003 x341004 x341005) else (if (Int.tmod x4 6) = 4 then (paybooklaw12_CycleOld.j1 k x5 x6 x17 ((1 + (Int.tmod x341000 5)) % 256) x341001 x341002 x341003 x341004 1 x333000 x333001 x333002 x333003 x333004 x333005 x333006 x333007 x341000 x341001 x341002 x341003 x341004 x341005) else (paybooklaw12_CycleOld.j1 k x5 x6 x17 x341000 x341001 x341002 x341003 x341004 1 x333000 x333001 x333002 x333003 x333004 x333005 x333006 x333007 x341000 x341001 x341002 x341003 x341004 x341005)))))) else (paybooklaw12_CycleOld.j1 k x5 x6 x17 x324000 x324001 x324002 x324003 x324004 x324005 x333000 x333001 x333002 x333003 x333004 x333005 x333006 x333007 x341000 x341001 x341002 x341003 x341004 x341005)
def paybooklaw12_CycleOld.j1 : Nat → Int → Bool → Bool → Int → Int → Int → Int → Int → Int → Int → Int → Int → Int → Int → Int → Int → Bool → Int → Int → Int → Int → Int → Int → Option (Bool)
 | 0, _, _, _, _, _, _, _, _, _, _, _, _, _, _, _, _, _, _, _, _, _, _, _ => none
 | k + 1, x5, x6, x17, x324000, x324001, x324002, x324003, x324004, x324005, x333000, x333001, x333002, x333003, x333004, x333005, x333006, x333007, x341000, x341001, x341002, x341003, x341004, x341005 => (cycle_Hear.f k 2 x333000 x333001 x333002 x333003 x333004 x333005 x333006 x333007 x324000 x324001 x324002 x324003 x324004 x324005 (wrap64 (x5)) x6).bind fun bt343 => (if x17 = true then (if (x324000 == x341000 && (x324001 == x341001 && (x324002 == x341002 && (x324003 == x341003 && (x324004 == x341004 && (0 == x341005)))))) = true then (paybooklaw12_CycleOld.j2 k bt343.2.2.2.2.2.2.2.2 (x324005 != 0) x333000 x333001 x333002 x333003 x333004 x333005 x333006 x333007 bt343.1 bt343.2.1 bt343.2.2.1 bt343.2.2.2.1 bt343.2.2.2.2.1 bt343.2.2.2.2.2.1 bt343.2.2.2.2.2.2.1 bt343.2.2.2.2.2.2.2.1) else (paybooklaw12_CycleOld.j2 k bt343.2.2.2.2.2.2.2.2 false x333000 x333001 x333002 x333003 x333004 x333005 x333006 x333007 bt343.1 bt343.2.1 bt343.2.2.1 bt343.2.2.2.1 bt343.2.2.2.2.1 bt343.2.2.2.2.2.1 bt343.2.2.2.2.2.2.1 bt343.2.2.2.2.2.2.2.1)) else (paybooklaw12_CycleOld.j2 k bt343.2.2.2.2.2.2.2.2 false x333000 x333001 x333002 x333003 x333004 x333005 x333006 x333007 bt343.1 bt343.2.1 bt343.2.2.1 bt343.2.2.2.1 bt343.2.2.2.2.1 bt343.2.2.2.2.2.1 bt343.2.2.2.2.2.2.1 bt343.2.2.2.2.2.2.2.1))
def paybooklaw12_CycleOld.j2 : Nat → Int → Bool → Int → Int → Int → Int → Int → Int → Int → Bool → Int → Int → Int → Int → Int → Int → Int → Bool → Option (Bool)
 | 0, _, _, _, _, _, _, _, _, _, _, _, _, _, _, _, _, _, _ => none
 | k + 1, x21, x93, x333000, x333001, x333002, x333003, x333004, x333005, x333006, x333007, x353000, x353001, x353002, x353003, x353004, x353005, x353006, x353007 => if x93 = true then ((paybooklaw12_awake.f k).bind fun t353 => (if t353 = true then (if x21 = 0 then (some (!(x353000 == x333000) || (!(x353001 == x333001) || (!(x353002 == x333002) || (!(x353003 == x333003) || (!(x353004 == x333004) || (!(x353005 == x333005) || (!(x353006 == x333006) || (!(x353007 == x333007)))))))))) else (some false)) else (some false))) else ((paybooklaw12_awake.f k).bind fun t354 => (if t354 = true then (if x21 = 10 then (some (x353000 == x333000 && (x353001 == x333001 && (x353002 == x333002 && (x353003 == x333003 && (x353004 == x333004 && (x353005 == x333005 && (x353006 == x333006 && (x353007 == x333007))))))))) else (some false)) else (some false)))
end
def paybooklaw12_CycleOld.f (k : Nat) (a0 : Int) (a1 : Int) (a2 : Int) (a3_0 : Int) (a3_1 : Int) (a3_2 : Int) (a3_3 : Int) (a3_4 : Int) (a3_5 : Int) (a4 : Int) (a5 : Int) (a6 : Bool) : Option (Bool) := (paybooklaw12_at.f k a0 7 9 a1 5 a2 3 true).bind fun bt324 => ((cycle_Asks.f 2 bt324.1 bt324.2.1 bt324.2.2.1 bt324.2.2.2.1 bt324.2.2.2.2.1 bt324.2.2.2.2.2.1 bt324.2.2.2.2.2.2.1 bt324.2.2.2.2.2.2.2).bind fun bt333 => (if a4 ≥ 128 then (paybooklaw12_CycleOld.j0 k a4 a5 a6 bt333.2.2.2.2.2.2 bt333.2.2.2.2.2.2 a3_0 a3_1 a3_2 a3_3 a3_4 a3_5 bt324.1 bt324.2.1 bt324.2.2.1 bt324.2.2.2.1 bt324.2.2.2.2.1 bt324.2.2.2.2.2.1 bt324.2.2.2.2.2.2.1 bt324.2.2.2.2.2.2.2 bt333.1 bt333.2.1 bt333.2.2.1 bt333.2.2.2.1 bt333.2.2.2.2.1 bt333.2.2.2.2.2.1) else (paybooklaw12_CycleOld.j0 k a4 a5 a6 bt333.2.2.2.2.2.2 false a3_0 a3_1 a3_2 a3_3 a3_4 a3_5 bt324.1 bt324.2.1 bt324.2.2.1 bt324.2.2.2.1 bt324.2.2.2.2.1 bt324.2.2.2.2.2.1 bt324.2.2.2.2.2.2.1 bt324.2.2.2.2.2.2.2 bt333.1 bt333.2.1 bt333.2.2.1 bt333.2.2.2.1 bt333.2.2.2.2.1 bt333.2.2.2.2.2.1)))
theorem paybooklaw12_CycleOld.mono_l : ∀ k, (∀ y0 y1 y2 y3 y4 y5 y6 y7 y8 y9 y10 y11 y12 y13 y14 y15 y16 y17 y18 y19 y20 y21 y22 y23 y24, LeO (paybooklaw12_CycleOld.j0 k y0 y1 y2 y3 y4 y5 y6 y7 y8 y9 y10 y11 y12 y13 y14 y15 y16 y17 y18 y19 y20 y21 y22 y23 y24) (paybooklaw12_CycleOld.j0 (k + 1) y0 y1 y2 y3 y4 y5 y6 y7 y8 y9 y10 y11 y12 y13 y14 y15 y16 y17 y18 y19 y20 y21 y22 y23 y24)) ∧ (∀ y0 y1 y2 y3 y4 y5 y6 y7 y8 y9 y10 y11 y12 y13 y14 y15 y16 y17 y18 y19 y20 y21 y22, LeO (paybooklaw12_CycleOld.j1 k y0 y1 y2 y3 y4 y5 y6 y7 y8 y9 y10 y11 y12 y13 y14 y15 y16 y17 y18 y19 y20 y21 y22) (paybooklaw12_CycleOld.j1 (k + 1) y0 y1 y2 y3 y4 y5 y6 y7 y8 y9 y10 y11 y12 y13 y14 y15 y16 y17 y18 y19 y20 y21 y22)) ∧ (∀ y0 y1 y2 y3 y4 y5 y6 y7 y8 y9 y10 y11 y12 y13 y14 y15 y16 y17, LeO (paybooklaw12_CycleOld.j2 k y0 y1 y2 y3 y4 y5 y6 y7 y8 y9 y10 y11 y12 y13 y14 y15 y16 y17) (paybooklaw12_CycleOld.j2 (k + 1) y0 y1 y2 y3 y4 y5 y6 y7 y8 y9 y10 y11 y12 y13 y14 y15 y16 y17))
 | 0 => ⟨fun _ _ _ _ _ _ _ _ _ _ _ _ _ _ _ _ _ _ _ _ _ _ _ _ _ r h => by simp [paybooklaw12_CycleOld.j0] at h, fun _ _ _ _ _ _ _ _ _ _ _ _ _ _ _ _ _ _ _ _ _ _ _ r h => by simp [paybooklaw12_CycleOld.j1] at h, fun _ _ _ _ _ _ _ _ _ _ _ _ _ _ _ _ _ _ r h => by simp [paybooklaw12_CycleOld.j2] at h⟩
 | k + 1 => by
  obtain ⟨ih0, ih1, ih2⟩ := paybooklaw12_CycleOld.mono_l k
  refine ⟨?_, ?_, ?_⟩
  ·intro y0 y1 y2 y3 y4 y5 y6 y7 y8 y9 y10 y11 y12 y13 y14 y15 y16 y17 y18 y19 y20 y21 y22 y23 y24
   unfold paybooklaw12_CycleOld.j0
   repeat' first
   | (with_reducible exact ih0 _ _ _ _ _ _ _ _ _ _ _ _ _ _ _ _ _ _ _ _ _ _ _ _ _)
   | (with_reducible exact ih1 _ _ _ _ _ _ _ _ _ _ _ _ _ _ _ _ _ _ _ _ _ _ _)
   | (with_reducible exact ih2 _ _ _ _ _ _ _ _ _ _ _ _ _ _ _ _ _ _)
   | (with_reducible exact cycle_Hear.mono _ _ _ _ _ _ _ _ _ _ _ _ _ _ _ _ _ _)
   | (with_reducible exact paybooklaw12_at.mono _ _ _ _ _ _ _ _ _)
   | (with_reducible exact paybooklaw12_awake.mono _)
   | (with_reducible exact LeO.refl _)
   | (with_reducible exact LeO.none _)
   | (with_reducible refine LeO.ite ?_ ?_)
   | (with_reducible refine LeO.bind ?_ (fun _ => ?_))
   | exact ih0 _ _ _ _ _ _ _ _ _ _ _ _ _ _ _ _ _ _ _ _ _ _ _ _ _
   | exact ih1 _ _ _ _ _ _ _ _ _ _ _ _ _ _ _ _ _ _ _ _ _ _ _
   | exact ih2 _ _ _ _ _ _ _ _ _ _ _ _ _ _ _ _ _ _
   | exact cycle_Hear.mono _ _ _ _ _ _ _ _ _ _ _ _ _ _ _ _ _ _
   | exact paybooklaw12_at.mono _ _ _ _ _ _ _ _ _
   | exact paybooklaw12_awake.mono _
   | exact LeO.none _
   | refine LeO.ite ?_ ?_
   | refine LeO.bind ?_ (fun _ => ?_)
  ·intro y0 y1 y2 y3 y4 y5 y6 y7 y8 y9 y10 y11 y12 y13 y14 y15 y16 y17 y18 y19 y20 y21 y22
   unfold paybooklaw12_CycleOld.j1
   repeat' first
   | (with_reducible exact ih0 _ _ _ _ _ _ _ _ _ _ _ _ _ _ _ _ _ _ _ _ _ _ _ _ _)
   | (with_reducible exact ih1 _ _ _ _ _ _ _ _ _ _ _ _ _ _ _ _ _ _ _ _ _ _ _)
   | (with_reducible exact ih2 _ _ _ _ _ _ _ _ _ _ _ _ _ _ _ _ _ _)
   | (with_reducible exact cycle_Hear.mono _ _ _ _ _ _ _ _ _ _ _ _ _ _ _ _ _ _)
   | (with_reducible exact paybooklaw12_at.mono _ _ _ _ _ _ _ _ _)
   | (with_reducible exact paybooklaw12_awake.mono _)
   | (with_reducible exact LeO.refl _)
   | (with_reducible exact LeO.none _)
   | (with_reducible refine LeO.ite ?_ ?_)
   | (with_reducible refine LeO.bind ?_ (fun _ => ?_))
   | exact ih0 _ _ _ _ _ _ _ _ _ _ _ _ _ _ _ _ _ _ _ _ _ _ _ _ _
   | exact ih1 _ _ _ _ _ _ _ _ _ _ _ _ _ _ _ _ _ _ _ _ _ _ _
   | exact ih2 _ _ _ _ _ _ _ _ _ _ _ _ _ _ _ _ _ _
   | exact cycle_Hear.mono _ _ _ _ _ _ _ _ _ _ _ _ _ _ _ _ _ _
   | exact paybooklaw12_at.mono _ _ _ _ _ _ _ _ _
   | exact paybooklaw12_awake.mono _
   | exact LeO.none _
   | refine LeO.ite ?_ ?_
   | refine LeO.bind ?_ (fun _ => ?_)
  ·intro y0 y1 y2 y3 y4 y5 y6 y7 y8 y9 y10 y11 y12 y13 y14 y15 y16 y17
   unfold paybooklaw12_CycleOld.j2
   repeat' first
   | (with_reducible exact ih0 _ _ _ _ _ _ _ _ _ _ _ _ _ _ _ _ _ _ _ _ _ _ _ _ _)
   | (with_reducible exact ih1 _ _ _ _ _ _ _ _ _ _ _ _ _ _ _ _ _ _ _ _ _ _ _)
   | (with_reducible exact ih2 _ _ _ _ _ _ _ _ _ _ _ _ _ _ _ _ _ _)
   | (with_reducible exact cycle_Hear.mono _ _ _ _ _ _ _ _ _ _ _ _ _ _ _ _ _ _)
   | (with_reducible exact paybooklaw12_at.mono _ _ _ _ _ _ _ _ _)
   | (with_reducible exact paybooklaw12_awake.mono _)
   | (with_reducible exact LeO.refl _)
   | (with_reducible exact LeO.none _)
   | (with_reducible refine LeO.ite ?_ ?_)
   | (with_reducible refine LeO.bind ?_ (fun _ => ?_))
   | exact ih0 _ _ _ _ _ _ _ _ _ _ _ _ _ _ _ _ _ _ _ _ _ _ _ _ _
   | exact ih1 _ _ _ _ _ _ _ _ _ _ _ _ _ _ _ _ _ _ _ _ _ _ _
   | exact ih2 _ _ _ _ _ _ _ _ _ _ _ _ _ _ _ _ _ _
   | exact cycle_Hear.mono _ _ _ _ _ _ _ _ _ _ _ _ _ _ _ _ _ _
   | exact paybooklaw12_at.mono _ _ _ _ _ _ _ _ _
   | exact paybooklaw12_awake.mono _
   | exact LeO.none _
   | refine LeO.ite ?_ ?_
   | refine LeO.bind ?_ (fun _ => ?_)
theorem paybooklaw12_CycleOld.mono : ∀ a0 a1 a2 a3 a4 a5 a6 a7 a8 a9 a10 a11 k, LeO (paybooklaw12_CycleOld.f k a0 a1 a2 a3 a4 a5 a6 a7 a8 a9 a10 a11) (paybooklaw12_CycleOld.f (k + 1) a0 a1 a2 a3 a4 a5 a6 a7 a8 a9 a10 a11) := by
 intro a0 a1 a2 a3 a4 a5 a6 a7 a8 a9 a10 a11 k
 obtain ⟨ih0, ih1, ih2⟩ := paybooklaw12_CycleOld.mono_l k
 unfold paybooklaw12_CycleOld.f
 repeat' first
   | (with_reducible exact ih0 _ _ _ _ _ _ _ _ _ _ _ _ _ _ _ _ _ _ _ _ _ _ _ _ _)
   | (with_reducible exact ih1 _ _ _ _ _ _ _ _ _ _ _ _ _ _ _ _ _ _ _ _ _ _ _)
   | (with_reducible exact ih2 _ _ _ _ _ _ _ _ _ _ _ _ _ _ _ _ _ _)
   | (with_reducible exact cycle_Hear.mono _ _ _ _ _ _ _ _ _ _ _ _ _ _ _ _ _ _)
   | (with_reducible exact paybooklaw12_at.mono _ _ _ _ _ _ _ _ _)
   | (with_reducible exact paybooklaw12_awake.mono _)
   | (with_reducible exact LeO.refl _)
   | (with_reducible exact LeO.none _)
   | (with_reducible refine LeO.ite ?_ ?_)
   | (with_reducible refine LeO.bind ?_ (fun _ => ?_))
   | exact ih0 _ _ _ _ _ _ _ _ _ _ _ _ _ _ _ _ _ _ _ _ _ _ _ _ _
   | exact ih1 _ _ _ _ _ _ _ _ _ _ _ _ _ _ _ _ _ _ _ _ _ _ _
   | exact ih2 _ _ _ _ _ _ _ _ _ _ _ _ _ _ _ _ _ _
   | exact cycle_Hear.mono _ _ _ _ _ _ _ _ _ _ _ _ _ _ _ _ _ _
   | exact paybooklaw12_at.mono _ _ _ _ _ _ _ _ _
   | exact paybooklaw12_awake.mono _
   | exact LeO.none _
   | refine LeO.ite ?_ ?_
   | refine LeO.bind ?_ (fun _ => ?_)
set_option maxHeartbeats 40000000 in
set_option maxRecDepth 100000 in
theorem paybooklaw12_CycleOld.calls (k : Nat) (a0 : Int) (a1 : Int) (a2 : Int) (a3_0 : Int) (a3_1 : Int) (a3_2 : Int) (a3_3 : Int) (a3_4 : Int) (a3_5 : Int) (a4 : Int) (a5 : Int) (a6 : Bool) (w : World) (hrG0 : Kd.C (Kd.int .i64) w (some ⟨0, 0, none⟩) 3 gl0) (h : paybooklaw12_CycleOld.f k a0 a1 a2 a3_0 a3_1 a3_2 a3_3 a3_4 a3_5 a4 a5 a6 = some true) :
  Calls Tryd.prog 5 #[.int .u8 a0, .int .u32 a1, .int .u8 a2, .agg #[.int .u8 a3_0, .int .i64 a3_1, .int .i64 a3_2, .int .i64 a3_3, .int .i64 a3_4, .int .u8 a3_5], .int .u8 a4, .int .u16 a5, .bool a6] w fun e w' => e = .returned (.bool true) ∧ Below w.heap.size w w' := by
 have hu28 := Tryd.underlying28
 have hu25 := Tryd.underlying25
 have HRG0 := Aside0.mk hrG0
 clear hrG0
 have HB := Aside0.mk (Below.refl w.heap.size w)
 have H : ((paybooklaw12_at.f k a0 7 9 a1 5 a2 3 true).bind fun bt324 => ((cycle_Asks.f 2 bt324.1 bt324.2.1 bt324.2.2.1 bt324.2.2.2.1 bt324.2.2.2.2.1 bt324.2.2.2.2.2.1 bt324.2.2.2.2.2.2.1 bt324.2.2.2.2.2.2.2).bind fun bt333 => (if a4 ≥ 128 then (paybooklaw12_CycleOld.j0 k a4 a5 a6 bt333.2.2.2.2.2.2 bt333.2.2.2.2.2.2 a3_0 a3_1 a3_2 a3_3 a3_4 a3_5 bt324.1 bt324.2.1 bt324.2.2.1 bt324.2.2.2.1 bt324.2.2.2.2.1 bt324.2.2.2.2.2.1 bt324.2.2.2.2.2.2.1 bt324.2.2.2.2.2.2.2 bt333.1 bt333.2.1 bt333.2.2.1 bt333.2.2.2.1 bt333.2.2.2.2.1 bt333.2.2.2.2.2.1) else (paybooklaw12_CycleOld.j0 k a4 a5 a6 bt333.2.2.2.2.2.2 false a3_0 a3_1 a3_2 a3_3 a3_4 a3_5 bt324.1 bt324.2.1 bt324.2.2.1 bt324.2.2.2.1 bt324.2.2.2.2.1 bt324.2.2.2.2.2.1 bt324.2.2.2.2.2.2.1 bt324.2.2.2.2.2.2.2 bt333.1 bt333.2.1 bt333.2.2.1 bt333.2.2.2.1 bt333.2.2.2.2.1 bt333.2.2.2.2.2.1)))) = some true := h
 clear h
 replace H := Option.bind_eq_some_iff.mp H
 obtain ⟨⟨t324, t325, t326, t327, t328, t329, t330, t331⟩, A80, H⟩ := H
 replace H : ((cycle_Asks.f 2 t324 t325 t326 t327 t328 t329 t330 t331).bind fun bt333 => (if a4 ≥ 128 then (paybooklaw12_CycleOld.j0 k a4 a5 a6 bt333.2.2.2.2.2.2 bt333.2.2.2.2.2.2 a3_0 a3_1 a3_2 a3_3 a3_4 a3_5 t324 t325 t326 t327 t328 t329 t330 t331 bt333.1 bt333.2.1 bt333.2.2.1 bt333.2.2.2.1 bt333.2.2.2.2.1 bt333.2.2.2.2.2.1) else (paybooklaw12_CycleOld.j0 k a4 a5 a6 bt333.2.2.2.2.2.2 false a3_0 a3_1 a3_2 a3_3 a3_4 a3_5 t324 t325 t326 t327 t328 t329 t330 t331 bt333.1 bt333.2.1 bt333.2.2.1 bt333.2.2.2.1 bt333.2.2.2.2.1 bt333.2.2.2.2.2.1))) = some true := H
 have A8 := Aside0.mk A80
 clear A80
 replace H := Option.bind_eq_some_iff.mp H
 obtain ⟨⟨t333, t334, t335, t336, t337, t338, t339⟩, A90, H⟩ := H
 replace H : (if a4 ≥ 128 then (paybooklaw12_CycleOld.j0 k a4 a5 a6 t339 t339 a3_0 a3_1 a3_2 a3_3 a3_4 a3_5 t324 t325 t326 t327 t328 t329 t330 t331 t333 t334 t335 t336 t337 t338) else (paybooklaw12_CycleOld.j0 k a4 a5 a6 t339 false a3_0 a3_1 a3_2 a3_3 a3_4 a3_5 t324 t325 t326 t327 t328 t329 t330 t331 t333 t334 t335 t336 t337 t338)) = some true := H
 have A9 := Aside0.mk A90
 clear A90
 have HC10 := Aside0.mk H
 clear H
 go_enter Tryd.func5, Tryd.ntmps5
 go_upto_region 3 with (first | ((with_reducible refine gate_dst (N := 10) rfl ?_); refine box_event ?hg (N := 10) ?hd (cs := #[.int .u8 a3_0, .int .i64 a3_1, .int .i64 a3_2, .int .i64 a3_3, .int .i64 a3_4, .int .u8 a3_5]) (t := 28) ?hr ?_; (case hd => rfl); (case hg => rfl); (case hr => first | (go_simp; done) | (go_simp; rfl)); intro gb323 hg w11 hbox hb; have n0_ := Aside0.mk (below_step (by repeat (first | (with_reducible first | exact HB.out | apply kL | apply kM | apply kE) | exact HB.out)) hb); have n1_ := Aside0.mk (hbox); have n2_ := Aside0.mk ((by rw [hg]; exact (below_size (by repeat (first | (with_reducible first | exact HB.out | apply kL | apply kM | apply kE) | exact HB.out))) : w.heap.size ≤ gb323)); have n3_ := Aside0.mk ((by rw [hg]; exact (below_size (by repeat (first | (with_reducible first | exact HB.out | apply kL | apply kM | apply kE) | exact HB.out))) : w.heap.size ≤ gb323)); clear HB; have HB := n0_; have BK323 := n1_; have GW323 := n2_; have GE323 := n3_; clear n0_ n1_ n2_ n3_; clear hb hbox hg) | ((with_reducible refine gate_callee (f := 12) rfl ?_); refine goesL_ (some 25) rfl rfl Tryd.func12 (by kernel_rfl) rfl #[.int .u8 a0, .int .u16 7, .int .u16 9, .int .u32 a1, .int .i32 5, .int .u8 a2, .int .u16 3, .bool true] rfl (by (try simp only [List.map_toArray, List.map_cons, List.map_nil]); first | done | rfl | (simp only [List.length_drop, List.length_take]; rfl)) ?_; (with_reducible refine (paybooklaw12_at.calls k a0 7 9 a1 5 a2 3 true t324 t325 t326 t327 t328 t329 t330 t331 _ A8.out).mono ?_); rintro e w12 ⟨rfl, hb⟩; refine ⟨_, rfl, ?_⟩; have n0_ := Aside0.mk (blk_below (g := gb323) (o := .cells #[.int .u8 a3_0, .int .i64 a3_1, .int .i64 a3_2, .int .i64 a3_3, .int .i64 a3_4, .int .u8 a3_5] 28 (0, 0)) (by (with_reducible repeat (first | refine kN ?_ _ | refine kD ?_ | refine kA ?_ _)); exact BK323.out) hb); have n1_ := Aside0.mk (below_step (by repeat (first | (with_reducible first | exact HB.out | apply kL | apply kM | apply kE | refine kS ?_ GE323.out) | exact HB.out)) hb); clear BK323; clear HB; have BK323 := n0_; have HB := n1_; clear n0_ n1_; (try clear hb); (try clear hb2); (try clear hk); (try clear hi)) | ((with_reducible refine gate_dst (N := 15) rfl ?_); refine box_event ?hg (N := 15) ?hd (cs := #[.int .i64 0, .int .i64 0, .int .u8 0, .int .i64 0, .int .i64 0, .int .i64 0, .int .i64 0, .bool false]) (t := 25) ?hr ?_; (case hd => rfl); (case hg => rfl); (case hr => first | (go_simp; done) | (go_simp; rfl)); intro gb332 hg w13 hbox hb; have n0_ := Aside0.mk (blk_below (g := gb323) (o := .cells #[.int .u8 a3_0, .int .i64 a3_1, .int .i64 a3_2, .int .i64 a3_3, .int .i64 a3_4, .int .u8 a3_5] 28 (0, 0)) (by (with_reducible repeat (first | refine kN ?_ _ | refine kD ?_ | refine kA ?_ _)); exact BK323.out) hb); have n1_ := Aside0.mk (below_step (by repeat (first | (with_reducible first | exact HB.out | apply kL | apply kM | apply kE | refine kS ?_ GE323.out) | exact HB.out)) hb); have n2_ := Aside0.mk (hbox); have n3_ := Aside0.mk ((by rw [hg]; exact (below_size (by repeat (first | (with_reducible first | exact HB.out | apply kL | apply kM | apply kE | refine kS ?_ GE323.out) | exact HB.out))) : w.heap.size ≤ gb332)); have n4_ := Aside0.mk ((by rw [hg]; exact (below_size (by repeat (first | (with_reducible first | exact HB.out | apply kL | apply kM | apply kE | refine kS ?_ GE323.out) | exact HB.out))) : w.heap.size ≤ gb332)); have n5_ := Aside0.mk ((by rw [hg]; exact Nat.ne_of_lt (blk_lt (g := gb323) (o := .cells #[.int .u8 a3_0, .int .i64 a3_1, .int .i64 a3_2, .int .i64 a3_3, .int .i64 a3_4, .int .u8 a3_5] 28 (0, 0)) (by (with_reducible repeat (first | refine kN ?_ _ | refine kD ?_ | refine kA ?_ _)); exact BK323.out)) : gb323 ≠ gb332)); have n6_ := Aside0.mk ((by rw [hg]; exact Nat.ne_of_gt (blk_lt (g := gb323) (o := .cells #[.int .u8 a3_0, .int .i64 a3_1, .int .i64 a3_2, .int .i64 a3_3, .int .i64 a3_4, .int .u8 a3_5] 28 (0, 0)) (by (with_reducible repeat (first | refine kN ?_ _ | refine kD ?_ | refine kA ?_ _)); exact BK323.out)) : gb332 ≠ gb323)); clear BK323; clear HB; have BK323 := n0_; have HB := n1_; have BK332 := n2_; have GW332 := n3_; have GE332 := n4_; have NB323_332 := n5_; have NB332_323 := n6_; clear n0_ n1_ n2_ n3_ n4_ n5_ n6_; clear hb hbox hg; have hnb14 := NB332_323.out; have hnc14 := NB323_332.out; have hcz15_0 : w13.cell? ⟨gb332, 0, none⟩ = some (.int .i64 0) := (kC BK332.out 0).trans rfl; have hcz15_1 : w13.cell? ⟨gb332, 1, none⟩ = some (.int .i64 0) := (kC BK332.out 1).trans rfl; have hcz15_2 : w13.cell? ⟨gb332, 2, none⟩ = some (.int .u8 0) := (kC BK332.out 2).trans rfl; have hcz15_3 : w13.cell? ⟨gb332, 3, none⟩ = some (.int .i64 0) := (kC BK332.out 3).trans rfl; have hcz15_4 : w13.cell? ⟨gb332, 4, none⟩ = some (.int .i64 0) := (kC BK332.out 4).trans rfl; have hcz15_5 : w13.cell? ⟨gb332, 5, none⟩ = some (.int .i64 0) := (kC BK332.out 5).trans rfl; have hcz15_6 : w13.cell? ⟨gb332, 6, none⟩ = some (.int .i64 0) := (kC BK332.out 6).trans rfl; have hcz15_7 : w13.cell? ⟨gb332, 7, none⟩ = some (.bool false) := (kC BK332.out 7).trans rfl; have hfz15_0 := kF BK332.out 0; have hfz15_1 := kF BK332.out 1; have hfz15_2 := kF BK332.out 2; have hfz15_3 := kF BK332.out 3; have hfz15_4 := kF BK332.out 4; have hfz15_5 := kF BK332.out 5; have hfz15_6 := kF BK332.out 6; have hfz15_7 := kF BK332.out 7) | ((with_reducible refine gate_dst (N := 27) rfl ?_); refine wpList_load_row rfl 25 (.tmp 15) rfl gb332 rfl 25 #[.int .i64 t324, .int .i64 t325, .int .u8 t326, .int .i64 t327, .int .i64 t328, .int .i64 t329, .int .i64 t330, .bool t331] (0, 0) _ (by (with_reducible repeat (first | refine kN ?_ _ | refine kD ?_ | refine kA ?_ _)); refine kP (cs := #[.int .i64 t324, .int .i64 t325, .int .u8 t326, .int .i64 t327, .int .i64 t328, .int .i64 t329, .int .i64 t330, .bool false]) ?_ 7 _ rfl; (with_reducible repeat (first | refine kN ?_ _ | refine kD ?_ | refine kA ?_ _)); refine kP (cs := #[.int .i64 t324, .int .i64 t325, .int .u8 t326, .int .i64 t327, .int .i64 t328, .int .i64 t329, .int .i64 0, .bool false]) ?_ 6 _ rfl; (with_reducible repeat (first | refine kN ?_ _ | refine kD ?_ | refine kA ?_ _)); refine kP (cs := #[.int .i64 t324, .int .i64 t325, .int .u8 t326, .int .i64 t327, .int .i64 t328, .int .i64 0, .int .i64 0, .bool false]) ?_ 5 _ rfl; (with_reducible repeat (first | refine kN ?_ _ | refine kD ?_ | refine kA ?_ _)); refine kP (cs := #[.int .i64 t324, .int .i64 t325, .int .u8 t326, .int .i64 t327, .int .i64 0, .int .i64 0, .int .i64 0, .bool false]) ?_ 4 _ rfl; (with_reducible repeat (first | refine kN ?_ _ | refine kD ?_ | refine kA ?_ _)); refine kP (cs := #[.int .i64 t324, .int .i64 t325, .int .u8 t326, .int .i64 0, .int .i64 0, .int .i64 0, .int .i64 0, .bool false]) ?_ 3 _ rfl; (with_reducible repeat (first | refine kN ?_ _ | refine kD ?_ | refine kA ?_ _)); refine kP (cs := #[.int .i64 t324, .int .i64 t325, .int .u8 0, .int .i64 0, .int .i64 0, .int .i64 0, .int .i64 0, .bool false]) ?_ 2 _ rfl; (with_reducible repeat (first | refine kN ?_ _ | refine kD ?_ | refine kA ?_ _)); refine kP (cs := #[.int .i64 t324, .int .i64 0, .int .u8 0, .int .i64 0, .int .i64 0, .int .i64 0, .int .i64 0, .bool false]) ?_ 1 _ rfl; (with_reducible repeat (first | refine kN ?_ _ | refine kD ?_ | refine kA ?_ _)); refine kP (cs := #[.int .i64 0, .int .i64 0, .int .u8 0, .int .i64 0, .int .i64 0, .int .i64 0, .int .i64 0, .bool false]) ?_ 0 _ rfl; (with_reducible repeat (first | refine kN ?_ _ | refine kD ?_ | refine kA ?_ _)); exact BK332.out) Tryd.underlying25 rfl (by kernel_rfl) ?_) | ((with_reducible refine gate_callee (f := 13) rfl ?_); refine goesL_ (some 28) rfl rfl Tryd.func13 (by kernel_rfl) rfl #[.int .i64 2, .agg #[.int .i64 t324, .int .i64 t325, .int .u8 t326, .int .i64 t327, .int .i64 t328, .int .i64 t329, .int .i64 t330, .bool t331]] rfl (by (try simp only [List.map_toArray, List.map_cons, List.map_nil]); first | done | rfl | (simp only [List.length_drop, List.length_take]; rfl)) ?_; (with_reducible refine (cycle_Asks.calls 2 t324 t325 t326 t327 t328 t329 t330 t331 t333 t334 t335 t336 t337 t338 t339 _ A9.out).mono ?_); rintro e w16 ⟨rfl, hb⟩; refine ⟨_, rfl, ?_⟩; have n0_ := Aside0.mk (blk_below (g := gb323) (o := .cells #[.int .u8 a3_0, .int .i64 a3_1, .int .i64 a3_2, .int .i64 a3_3, .int .i64 a3_4, .int .u8 a3_5] 28 (0, 0)) (by (with_reducible repeat (first | refine kN ?_ _ | refine kD ?_ | refine kA ?_ _)); refine kR ?_ NB323_332.out _; (with_reducible repeat (first | refine kN ?_ _ | refine kD ?_ | refine kA ?_ _)); refine kR ?_ NB323_332.out _; (with_reducible repeat (first | refine kN ?_ _ | refine kD ?_ | refine kA ?_ _)); refine kR ?_ NB323_332.out _; (with_reducible repeat (first | refine kN ?_ _ | refine kD ?_ | refine kA ?_ _)); refine kR ?_ NB323_332.out _; (with_reducible repeat (first | refine kN ?_ _ | refine kD ?_ | refine kA ?_ _)); refine kR ?_ NB323_332.out _; (with_reducible repeat (first | refine kN ?_ _ | refine kD ?_ | refine kA ?_ _)); refine kR ?_ NB323_332.out _; (with_reducible repeat (first | refine kN ?_ _ | refine kD ?_ | refine kA ?_ _)); refine kR ?_ NB323_332.out _; (with_reducible repeat (first | refine kN ?_ _ | refine kD ?_ | refine kA ?_ _)); refine kR ?_ NB323_332.out _; (with_reducible repeat (first | refine kN ?_ _ | refine kD ?_ | refine kA ?_ _)); exact BK323.out) hb); have n1_ := Aside0.mk (blk_below (g := gb332) (o := .cells #[.int .i64 t324, .int .i64 t325, .int .u8 t326, .int .i64 t327, .int .i64 t328, .int .i64 t329, .int .i64 t330, .bool t331] 25 (0, 0)) (by (with_reducible repeat (first | refine kN ?_ _ | refine kD ?_ | refine kA ?_ _)); refine kP (cs := #[.int .i64 t324, .int .i64 t325, .int .u8 t326, .int .i64 t327, .int .i64 t328, .int .i64 t329, .int .i64 t330, .bool false]) ?_ 7 _ rfl; (with_reducible repeat (first | refine kN ?_ _ | refine kD ?_ | refine kA ?_ _)); refine kP (cs := #[.int .i64 t324, .int .i64 t325, .int .u8 t326, .int .i64 t327, .int .i64 t328, .int .i64 t329, .int .i64 0, .bool false]) ?_ 6 _ rfl; (with_reducible repeat (first | refine kN ?_ _ | refine kD ?_ | refine kA ?_ _)); refine kP (cs := #[.int .i64 t324, .int .i64 t325, .int .u8 t326, .int .i64 t327, .int .i64 t328, .int .i64 0, .int .i64 0, .bool false]) ?_ 5 _ rfl; (with_reducible repeat (first | refine kN ?_ _ | refine kD ?_ | refine kA ?_ _)); refine kP (cs := #[.int .i64 t324, .int .i64 t325, .int .u8 t326, .int .i64 t327, .int .i64 0, .int .i64 0, .int .i64 0, .bool false]) ?_ 4 _ rfl; (with_reducible repeat (first | refine kN ?_ _ | refine kD ?_ | refine kA ?_ _)); refine kP (cs := #[.int .i64 t324, .int .i64 t325, .int .u8 t326, .int .i64 0, .int .i64 0, .int .i64 0, .int .i64 0, .bool false]) ?_ 3 _ rfl; (with_reducible repeat (first | refine kN ?_ _ | refine kD ?_ | refine kA ?_ _)); refine kP (cs := #[.int .i64 t324, .int .i64 t325, .int .u8 0, .int .i64 0, .int .i64 0, .int .i64 0, .int .i64 0, .bool false]) ?_ 2 _ rfl; (with_reducible repeat (first | refine kN ?_ _ | refine kD ?_ | refine kA ?_ _)); refine kP (cs := #[.int .i64 t324, .int .i64 0, .int .u8 0, .int .i64 0, .int .i64 0, .int .i64 0, .int .i64 0, .bool false]) ?_ 1 _ rfl; (with_reducible repeat (first | refine kN ?_ _ | refine kD ?_ | refine kA ?_ _)); refine kP (cs := #[.int .i64 0, .int .i64 0, .int .u8 0, .int .i64 0, .int .i64 0, .int .i64 0, .int .i64 0, .bool false]) ?_ 0 _ rfl; (with_reducible repeat (first | refine kN ?_ _ | refine kD ?_ | refine kA ?_ _)); exact BK332.out) hb); have n2_ := Aside0.mk (below_step (by repeat (first | (with_reducible first | exact HB.out | apply kL | apply kM | apply kE | refine kS ?_ GE323.out | refine kS ?_ GE332.out) | exact HB.out)) hb); clear BK323; clear BK332; clear HB; have BK323 := n0_; have BK332 := n1_; have HB := n2_; clear n0_ n1_ n2_; (try clear hb); (try clear hb2); (try clear hk); (try clear hi)) | ((with_reducible refine gate_dst (N := 16) rfl ?_); refine box_event ?hg (N := 16) ?hd (cs := #[.int .u8 0, .int .i64 0, .int .i64 0, .int .i64 0, .int .i64 0, .int .u8 0]) (t := 28) ?hr ?_; (case hd => rfl); (case hg => rfl); (case hr => first | (go_simp; done) | (go_simp; rfl)); intro gb340 hg w17 hbox hb; have n0_ := Aside0.mk (blk_below (g := gb323) (o := .cells #[.int .u8 a3_0, .int .i64 a3_1, .int .i64 a3_2, .int .i64 a3_3, .int .i64 a3_4, .int .u8 a3_5] 28 (0, 0)) (by (with_reducible repeat (first | refine kN ?_ _ | refine kD ?_ | refine kA ?_ _)); exact BK323.out) hb); have n1_ := Aside0.mk (blk_below (g := gb332) (o := .cells #[.int .i64 t324, .int .i64 t325, .int .u8 t326, .int .i64 t327, .int .i64 t328, .int .i64 t329, .int .i64 t330, .bool t331] 25 (0, 0)) (by (with_reducible repeat (first | refine kN ?_ _ | refine kD ?_ | refine kA ?_ _)); exact BK332.out) hb); have n2_ := Aside0.mk (below_step (by repeat (first | (with_reducible first | exact HB.out | apply kL | apply kM | apply kE | refine kS ?_ GE323.out | refine kS ?_ GE332.out) | exact HB.out)) hb); have n3_ := Aside0.mk (hbox); have n4_ := Aside0.mk ((by rw [hg]; exact (below_size (by repeat (first | (with_reducible first | exact HB.out | apply kL | apply kM | apply kE | refine kS ?_ GE323.out | refine kS ?_ GE332.out) | exact HB.out))) : w.heap.size ≤ gb340)); have n5_ := Aside0.mk ((by rw [hg]; exact (below_size (by repeat (first | (with_reducible first | exact HB.out | apply kL | apply kM | apply kE | refine kS ?_ GE323.out | refine kS ?_ GE332.out) | exact HB.out))) : w.heap.size ≤ gb340)); have n6_ := Aside0.mk ((by rw [hg]; exact Nat.ne_of_lt (blk_lt (g := gb323) (o := .cells #[.int .u8 a3_0, .int .i64 a3_1, .int .i64 a3_2, .int .i64 a3_3, .int .i64 a3_4, .int .u8 a3_5] 28 (0, 0)) (by (with_reducible repeat (first | refine kN ?_ _ | refine kD ?_ | refine kA ?_ _)); exact BK323.out)) : gb323 ≠ gb340)); have n7_ := Aside0.mk ((by rw [hg]; exact Nat.ne_of_gt (blk_lt (g := gb323) (o := .cells #[.int .u8 a3_0, .int .i64 a3_1, .int .i64 a3_2, .int .i64 a3_3, .int .i64 a3_4, .int .u8 a3_5] 28 (0, 0)) (by (with_reducible repeat (first | refine kN ?_ _ | refine kD ?_ | refine kA ?_ _)); exact BK323.out)) : gb340 ≠ gb323)); have n8_ := Aside0.mk ((by rw [hg]; exact Nat.ne_of_lt (blk_lt (g := gb332) (o := .cells #[.int .i64 t324, .int .i64 t325, .int .u8 t326, .int .i64 t327, .int .i64 t328, .int .i64 t329, .int .i64 t330, .bool t331] 25 (0, 0)) (by (with_reducible repeat (first | refine kN ?_ _ | refine kD ?_ | refine kA ?_ _)); exact BK332.out)) : gb332 ≠ gb340)); have n9_ := Aside0.mk ((by rw [hg]; exact Nat.ne_of_gt (blk_lt (g := gb332) (o := .cells #[.int .i64 t324, .int .i64 t325, .int .u8 t326, .int .i64 t327, .int .i64 t328, .int .i64 t329, .int .i64 t330, .bool t331] 25 (0, 0)) (by (with_reducible repeat (first | refine kN ?_ _ | refine kD ?_ | refine kA ?_ _)); exact BK332.out)) : gb340 ≠ gb332)); clear BK323; clear BK332; clear HB; have BK323 := n0_; have BK332 := n1_; have HB := n2_; have BK340 := n3_; have GW340 := n4_; have GE340 := n5_; have NB323_340 := n6_; have NB340_323 := n7_; have NB332_340 := n8_; have NB340_332 := n9_; clear n0_ n1_ n2_ n3_ n4_ n5_ n6_ n7_ n8_ n9_; clear hb hbox hg; have hnb18 := NB340_323.out; have hnc18 := NB323_340.out; have hnb19 := NB340_332.out; have hnc19 := NB332_340.out; have hcz20_0 : w17.cell? ⟨gb340, 0, none⟩ = some (.int .u8 0) := (kC BK340.out 0).trans rfl; have hcz20_1 : w17.cell? ⟨gb340, 1, none⟩ = some (.int .i64 0) := (kC BK340.out 1).trans rfl; have hcz20_2 : w17.cell? ⟨gb340, 2, none⟩ = some (.int .i64 0) := (kC BK340.out 2).trans rfl; have hcz20_3 : w17.cell? ⟨gb340, 3, none⟩ = some (.int .i64 0) := (kC BK340.out 3).trans rfl; have hcz20_4 : w17.cell? ⟨gb340, 4, none⟩ = some (.int .i64 0) := (kC BK340.out 4).trans rfl; have hcz20_5 : w17.cell? ⟨gb340, 5, none⟩ = some (.int .u8 0) := (kC BK340.out 5).trans rfl; have hfz20_0 := kF BK340.out 0; have hfz20_1 := kF BK340.out 1; have hfz20_2 := kF BK340.out 2; have hfz20_3 := kF BK340.out 3; have hfz20_4 := kF BK340.out 4; have hfz20_5 := kF BK340.out 5))
 (try simp only [Act.put, List.setIfInBounds_toArray, List.set_cons_zero, List.set_cons_succ])
 go_cut [35] (fun v35 wc => ∃ (kq : Nat) (x35_9 : Bool), v35 = .bool x35_9 ∧ Aside0 (paybooklaw12_CycleOld.j0 kq a4 a5 a6 t339 x35_9 a3_0 a3_1 a3_2 a3_3 a3_4 a3_5 t324 t325 t326 t327 t328 t329 t330 t331 t333 t334 t335 t336 t337 t338 = some true) ∧ Aside0 (kq ≤ k) ∧ Aside0 (wc.heap[gb323]? = some (.cells #[.int .u8 a3_0, .int .i64 a3_1, .int .i64 a3_2, .int .i64 a3_3, .int .i64 a3_4, .int .u8 a3_5] 28 (0, 0))) ∧ Aside0 (wc.heap[gb332]? = some (.cells #[.int .i64 t324, .int .i64 t325, .int .u8 t326, .int .i64 t327, .int .i64 t328, .int .i64 t329, .int .i64 t330, .bool t331] 25 (0, 0))) ∧ Aside0 (wc.heap[gb340]? = some (.cells #[.int .u8 t333, .int .i64 t334, .int .i64 t335, .int .i64 t336, .int .i64 t337, .int .u8 t338] 28 (0, 0))) ∧ Aside0 (Below w.heap.size w wc))
 case first =>
  have H := HC10.out
  clear HC10
  by_cases c21 : a4 ≥ 128
  ·rw [if_pos c21] at H
   have c21b0 : decide (128 ≤ a4) = true := decide_eq_true c21
   clear c21
   (first | (generalize hg_ : decide (128 ≤ a4) = bg_ at *; subst c21b0; have c21b0 := hg_; clear hg_) | rw [c21b0] | (simp only [i64_w, i32_w]; rw [c21b0]) | skip)
   have H' := Aside0.mk H
   clear H
   go_wp2
   go_meet
   case rel => exact ⟨_, (t339), (by first | rfl | (simp; done) | (simp [*]; done)), H', ⟨by first | omega | exact Nat.le_refl _⟩, ⟨by (with_reducible repeat (first | refine kN ?_ _ | refine kD ?_ | refine kA ?_ _)); refine kR ?_ NB323_340.out _; (with_reducible repeat (first | refine kN ?_ _ | refine kD ?_ | refine kA ?_ _)); refine kR ?_ NB323_340.out _; (with_reducible repeat (first | refine kN ?_ _ | refine kD ?_ | refine kA ?_ _)); refine kR ?_ NB323_340.out _; (with_reducible repeat (first | refine kN ?_ _ | refine kD ?_ | refine kA ?_ _)); refine kR ?_ NB323_340.out _; (with_reducible repeat (first | refine kN ?_ _ | refine kD ?_ | refine kA ?_ _)); refine kR ?_ NB323_340.out _; (with_reducible repeat (first | refine kN ?_ _ | refine kD ?_ | refine kA ?_ _)); refine kR ?_ NB323_340.out _; (with_reducible repeat (first | refine kN ?_ _ | refine kD ?_ | refine kA ?_ _)); exact BK323.out⟩, ⟨by (with_reducible repeat (first | refine kN ?_ _ | refine kD ?_ | refine kA ?_ _)); refine kR ?_ NB332_340.out _; (with_reducible repeat (first | refine kN ?_ _ | refine kD ?_ | refine kA ?_ _)); refine kR ?_ NB332_340.out _; (with_reducible repeat (first | refine kN ?_ _ | refine kD ?_ | refine kA ?_ _)); refine kR ?_ NB332_340.out _; (with_reducible repeat (first | refine kN ?_ _ | refine kD ?_ | refine kA ?_ _)); refine kR ?_ NB332_340.out _; (with_reducible repeat (first | refine kN ?_ _ | refine kD ?_ | refine kA ?_ _)); refine kR ?_ NB332_340.out _; (with_reducible repeat (first | refine kN ?_ _ | refine kD ?_ | refine kA ?_ _)); refine kR ?_ NB332_340.out _; (with_reducible repeat (first | refine kN ?_ _ | refine kD ?_ | refine kA ?_ _)); exact BK332.out⟩, ⟨by (with_reducible repeat (first | refine kN ?_ _ | refine kD ?_ | refine kA ?_ _)); refine kP (cs := #[.int .u8 t333, .int .i64 t334, .int .i64 t335, .int .i64 t336, .int .i64 t337, .int .u8 0]) ?_ 5 _ rfl; (with_reducible repeat (first | refine kN ?_ _ | refine kD ?_ | refine kA ?_ _)); refine kP (cs := #[.int .u8 t333, .int .i64 t334, .int .i64 t335, .int .i64 t336, .int .i64 0, .int .u8 0]) ?_ 4 _ rfl; (with_reducible repeat (first | refine kN ?_ _ | refine kD ?_ | refine kA ?_ _)); refine kP (cs := #[.int .u8 t333, .int .i64 t334, .int .i64 t335, .int .i64 0, .int .i64 0, .int .u8 0]) ?_ 3 _ rfl; (with_reducible repeat (first | refine kN ?_ _ | refine kD ?_ | refine kA ?_ _)); refine kP (cs := #[.int .u8 t333, .int .i64 t334, .int .i64 0, .int .i64 0, .int .i64 0, .int .u8 0]) ?_ 2 _ rfl; (with_reducible repeat (first | refine kN ?_ _ | refine kD ?_ | refine kA ?_ _)); refine kP (cs := #[.int .u8 t333, .int .i64 0, .int .i64 0, .int .i64 0, .int .i64 0, .int .u8 0]) ?_ 1 _ rfl; (with_reducible repeat (first | refine kN ?_ _ | refine kD ?_ | refine kA ?_ _)); refine kP (cs := #[.int .u8 0, .int .i64 0, .int .i64 0, .int .i64 0, .int .i64 0, .int .u8 0]) ?_ 0 _ rfl; (with_reducible repeat (first | refine kN ?_ _ | refine kD ?_ | refine kA ?_ _)); exact BK340.out⟩, ⟨by repeat (first | (with_reducible first | exact HB.out | apply kL | apply kM | apply kE | refine kS ?_ GE323.out | refine kS ?_ GE332.out | refine kS ?_ GE340.out) | exact HB.out)⟩⟩
  ·rw [if_neg c21] at H
   have c21b0 : decide (128 ≤ a4) = false := decide_eq_false c21
   clear c21
   (first | (generalize hg_ : decide (128 ≤ a4) = bg_ at *; subst c21b0; have c21b0 := hg_; clear hg_) | rw [c21b0] | (simp only [i64_w, i32_w]; rw [c21b0]) | skip)
   have H' := Aside0.mk H
   clear H
   go_wp2
   go_meet
   case rel => exact ⟨_, (false), (by first | rfl | (simp; done) | (simp [*]; done)), H', ⟨by first | omega | exact Nat.le_refl _⟩, ⟨by (with_reducible repeat (first | refine kN ?_ _ | refine kD ?_ | refine kA ?_ _)); refine kR ?_ NB323_340.out _; (with_reducible repeat (first | refine kN ?_ _ | refine kD ?_ | refine kA ?_ _)); refine kR ?_ NB323_340.out _; (with_reducible repeat (first | refine kN ?_ _ | refine kD ?_ | refine kA ?_ _)); refine kR ?_ NB323_340.out _; (with_reducible repeat (first | refine kN ?_ _ | refine kD ?_ | refine kA ?_ _)); refine kR ?_ NB323_340.out _; (with_reducible repeat (first | refine kN ?_ _ | refine kD ?_ | refine kA ?_ _)); refine kR ?_ NB323_340.out _; (with_reducible repeat (first | refine kN ?_ _ | refine kD ?_ | refine kA ?_ _)); refine kR ?_ NB323_340.out _; (with_reducible repeat (first | refine kN ?_ _ | refine kD ?_ | refine kA ?_ _)); exact BK323.out⟩, ⟨by (with_reducible repeat (first | refine kN ?_ _ | refine kD ?_ | refine kA ?_ _)); refine kR ?_ NB332_340.out _; (with_reducible repeat (first | refine kN ?_ _ | refine kD ?_ | refine kA ?_ _)); refine kR ?_ NB332_340.out _; (with_reducible repeat (first | refine kN ?_ _ | refine kD ?_ | refine kA ?_ _)); refine kR ?_ NB332_340.out _; (with_reducible repeat (first | refine kN ?_ _ | refine kD ?_ | refine kA ?_ _)); refine kR ?_ NB332_340.out _; (with_reducible repeat (first | refine kN ?_ _ | refine kD ?_ | refine kA ?_ _)); refine kR ?_ NB332_340.out _; (with_reducible repeat (first | refine kN ?_ _ | refine kD ?_ | refine kA ?_ _)); refine kR ?_ NB332_340.out _; (with_reducible repeat (first | refine kN ?_ _ | refine kD ?_ | refine kA ?_ _)); exact BK332.out⟩, ⟨by (with_reducible repeat (first | refine kN ?_ _ | refine kD ?_ | refine kA ?_ _)); refine kP (cs := #[.int .u8 t333, .int .i64 t334, .int .i64 t335, .int .i64 t336, .int .i64 t337, .int .u8 0]) ?_ 5 _ rfl; (with_reducible repeat (first | refine kN ?_ _ | refine kD ?_ | refine kA ?_ _)); refine kP (cs := #[.int .u8 t333, .int .i64 t334, .int .i64 t335, .int .i64 t336, .int .i64 0, .int .u8 0]) ?_ 4 _ rfl; (with_reducible repeat (first | refine kN ?_ _ | refine kD ?_ | refine kA ?_ _)); refine kP (cs := #[.int .u8 t333, .int .i64 t334, .int .i64 t335, .int .i64 0, .int .i64 0, .int .u8 0]) ?_ 3 _ rfl; (with_reducible repeat (first | refine kN ?_ _ | refine kD ?_ | refine kA ?_ _)); refine kP (cs := #[.int .u8 t333, .int .i64 t334, .int .i64 0, .int .i64 0, .int .i64 0, .int .u8 0]) ?_ 2 _ rfl; (with_reducible repeat (first | refine kN ?_ _ | refine kD ?_ | refine kA ?_ _)); refine kP (cs := #[.int .u8 t333, .int .i64 0, .int .i64 0, .int .i64 0, .int .i64 0, .int .u8 0]) ?_ 1 _ rfl; (with_reducible repeat (first | refine kN ?_ _ | refine kD ?_ | refine kA ?_ _)); refine kP (cs := #[.int .u8 0, .int .i64 0, .int .i64 0, .int .i64 0, .int .i64 0, .int .u8 0]) ?_ 0 _ rfl; (with_reducible repeat (first | refine kN ?_ _ | refine kD ?_ | refine kA ?_ _)); exact BK340.out⟩, ⟨by repeat (first | (with_reducible first | exact HB.out | apply kL | apply kM | apply kE | refine kS ?_ GE323.out | refine kS ?_ GE332.out | refine kS ?_ GE340.out) | exact HB.out)⟩⟩
 case rest =>
  clear HC10
  try clear c1
  try clear c2
  try clear p2
  try clear c5
  try clear c12
  try clear c13
  try clear c14
  try clear c18
  try clear c19
  try clear c21
  try clear c21b0
  try clear hcz15_0
  try clear hcz15_1
  try clear hcz15_2
  try clear hcz15_3
  try clear hcz15_4
  try clear hcz15_5
  try clear hcz15_6
  try clear hcz15_7
  try clear hcz20_0
  try clear hcz20_1
  try clear hcz20_2
  try clear hcz20_3
  try clear hcz20_4
  try clear hcz20_5
  try clear hfz15_0
  try clear hfz15_1
  try clear hfz15_2
  try clear hfz15_3
  try clear hfz15_4
  try clear hfz15_5
  try clear hfz15_6
  try clear hfz15_7
  try clear hfz20_0
  try clear hfz20_1
  try clear hfz20_2
  try clear hfz20_3
  try clear hfz20_4
  try clear hfz20_5
  obtain ⟨kq, x35_9, rfl, HA, HJ9, BK323, BK332, BK340, HB⟩ := hcut
  cases kq with
  | zero => exact absurd HA.out (by simp [paybooklaw12_CycleOld.j0])
  | succ kj9 =>
   have H := HA.out
   clear HA
   simp only [paybooklaw12_CycleOld.j0] at H
   have HC22 := Aside0.mk H
   clear H
   go_upto_if 35 with (fail)
   go_cut [] (fun wc => ∃ (kq : Nat) (x324000_21 : Int) (x324001_21 : Int) (x324002_21 : Int) (x324003_21 : Int) (x324004_21 : Int) (x324005_21 : Int), Aside0 (paybooklaw12_CycleOld.j1 kq a5 a6 t339 x324000_21 x324001_21 x324002_21 x324003_21 x324004_21 x324005_21 t324 t325 t326 t327 t328 t329 t330 t331 t333 t334 t335 t336 t337 t338 = some true) ∧ Aside0 (kq ≤ kj9) ∧ Aside0 (wc.heap[gb323]? = some (.cells #[.int .u8 x324000_21, .int .i64 x324001_21, .int .i64 x324002_21, .int .i64 x324003_21, .int .i64 x324004_21, .int .u8 x324005_21] 28 (0, 0))) ∧ Aside0 (wc.heap[gb332]? = some (.cells #[.int .i64 t324, .int .i64 t325, .int .u8 t326, .int .i64 t327, .int .i64 t328, .int .i64 t329, .int .i64 t330, .bool t331] 25 (0, 0))) ∧ Aside0 (wc.heap[gb340]? = some (.cells #[.int .u8 t333, .int .i64 t334, .int .i64 t335, .int .i64 t336, .int .i64 t337, .int .u8 t338] 28 (0, 0))) ∧ Aside0 (Below w.heap.size w wc))
   case first =>
    have H := HC22.out
    clear HC22
    by_cases c23 : x35_9 = true
    ·subst c23
     have H1 : (if (Int.tmod a4 6) = 0 then (paybooklaw12_CycleOld.j1 kj9 a5 a6 t339 t333 (wrap64 (t334 + 1)) t335 t336 t337 1 t324 t325 t326 t327 t328 t329 t330 t331 t333 t334 t335 t336 t337 t338) else (if (Int.tmod a4 6) = 1 then (paybooklaw12_CycleOld.j1 kj9 a5 a6 t339 t333 t334 (wrap64 (t335 + 1)) t336 t337 1 t324 t325 t326 t327 t328 t329 t330 t331 t333 t334 t335 t336 t337 t338) else (if (Int.tmod a4 6) = 2 then (paybooklaw12_CycleOld.j1 kj9 a5 a6 t339 t333 t334 t335 (wrap64 (t336 + 1)) t337 1 t324 t325 t326 t327 t328 t329 t330 t331 t333 t334 t335 t336 t337 t338) else (if (Int.tmod a4 6) = 3 then (paybooklaw12_CycleOld.j1 kj9 a5 a6 t339 t333 t334 t335 t336 (wrap64 (t337 + 1)) 1 t324 t325 t326 t327 t328 t329 t330 t331 t333 t334 t335 t336 t337 t338) else (if (Int.tmod a4 6) = 4 then (paybooklaw12_CycleOld.j1 kj9 a5 a6 t339 ((1 + (Int.tmod t333 5)) % 256) t334 t335 t336 t337 1 t324 t325 t326 t327 t328 t329 t330 t331 t333 t334 t335 t336 t337 t338) else (paybooklaw12_CycleOld.j1 kj9 a5 a6 t339 t333 t334 t335 t336 t337 1 t324 t325 t326 t327 t328 t329 t330 t331 t333 t334 t335 t336 t337 t338)))))) = some true := by rw [if_pos rfl] at H; try exact H
     clear H
     have H := H1
     clear H1
     by_cases c24 : (Int.tmod a4 6) = 0
     ·rw [if_pos c24] at H
      have c24b0 : ((Int.tmod a4 6) == 0) = true := beq_iff_eq.mpr c24
      have c24b1 : ((Int.tmod a4 6) != 0) = false := bne_eq_false_iff_eq.mpr c24
      clear c24
      (first | (generalize hg_ : ((Int.tmod a4 6) == 0) = bg_ at *; subst c24b0; have c24b0 := hg_; clear hg_) | rw [c24b0] | (simp only [i64_w, i32_w]; rw [c24b0]) | skip)
      have H' := Aside0.mk H
      clear H
      have hnb25 := NB340_323.out
      have hnc25 := NB323_340.out
      have hnb26 := NB340_332.out
      have hnc26 := NB332_340.out
      have hcz27_0 : wc.cell? ⟨gb340, 0, none⟩ = some (.int .u8 t333) := (kC BK340.out 0).trans rfl
      have hcz27_1 : wc.cell? ⟨gb340, 1, none⟩ = some (.int .i64 t334) := (kC BK340.out 1).trans rfl
      have hcz27_2 : wc.cell? ⟨gb340, 2, none⟩ = some (.int .i64 t335) := (kC BK340.out 2).trans rfl
      have hcz27_3 : wc.cell? ⟨gb340, 3, none⟩ = some (.int .i64 t336) := (kC BK340.out 3).trans rfl
      have hcz27_4 : wc.cell? ⟨gb340, 4, none⟩ = some (.int .i64 t337) := (kC BK340.out 4).trans rfl
      have hcz27_5 : wc.cell? ⟨gb340, 5, none⟩ = some (.int .u8 t338) := (kC BK340.out 5).trans rfl
      have hfz27_0 := kF BK340.out 0
      have hfz27_1 := kF BK340.out 1
      have hfz27_2 := kF BK340.out 2
      have hfz27_3 := kF BK340.out 3
      have hfz27_4 := kF BK340.out 4
      have hfz27_5 := kF BK340.out 5
      go_wp2_with (first | ((with_reducible refine gate_dst (N := 18) rfl ?_); refine box_event ?hg (N := 18) ?hd (cs := #[.int .u8 0, .int .i64 0, .int .i64 0, .int .i64 0, .int .i64 0, .int .u8 0]) (t := 28) ?hr ?_; (case hd => rfl); (case hg => rfl); (case hr => first | (go_simp; done) | (go_simp; rfl)); intro gb341 hg w28 hbox hb; have n0_ := Aside0.mk (blk_below (g := gb323) (o := .cells #[.int .u8 a3_0, .int .i64 a3_1, .int .i64 a3_2, .int .i64 a3_3, .int .i64 a3_4, .int .u8 a3_5] 28 (0, 0)) (by (with_reducible repeat (first | refine kN ?_ _ | refine kD ?_ | refine kA ?_ _)); exact BK323.out) hb); have n1_ := Aside0.mk (blk_below (g := gb332) (o := .cells #[.int .i64 t324, .int .i64 t325, .int .u8 t326, .int .i64 t327, .int .i64 t328, .int .i64 t329, .int .i64 t330, .bool t331] 25 (0, 0)) (by (with_reducible repeat (first | refine kN ?_ _ | refine kD ?_ | refine kA ?_ _)); exact BK332.out) hb); have n2_ := Aside0.mk (blk_below (g := gb340) (o := .cells #[.int .u8 t333, .int .i64 t334, .int .i64 t335, .int .i64 t336, .int .i64 t337, .int .u8 t338] 28 (0, 0)) (by (with_reducible repeat (first | refine kN ?_ _ | refine kD ?_ | refine kA ?_ _)); exact BK340.out) hb); have n3_ := Aside0.mk (below_step (by repeat (first | (with_reducible first | exact HB.out | apply kL | apply kM | apply kE | refine kS ?_ GE323.out | refine kS ?_ GE332.out | refine kS ?_ GE340.out) | exact HB.out)) hb); have n4_ := Aside0.mk (hbox); have n5_ := Aside0.mk ((by rw [hg]; exact (below_size (by repeat (first | (with_reducible first | exact HB.out | apply kL | apply kM | apply kE | refine kS ?_ GE323.out | refine kS ?_ GE332.out | refine kS ?_ GE340.out) | exact HB.out))) : w.heap.size ≤ gb341)); have n6_ := Aside0.mk ((by rw [hg]; exact (below_size (by repeat (first | (with_reducible first | exact HB.out | apply kL | apply kM | apply kE | refine kS ?_ GE323.out | refine kS ?_ GE332.out | refine kS ?_ GE340.out) | exact HB.out))) : w.heap.size ≤ gb341)); have n7_ := Aside0.mk ((by rw [hg]; exact Nat.ne_of_lt (blk_lt (g := gb323) (o := .cells #[.int .u8 a3_0, .int .i64 a3_1, .int .i64 a3_2, .int .i64 a3_3, .int .i64 a3_4, .int .u8 a3_5] 28 (0, 0)) (by (with_reducible repeat (first | refine kN ?_ _ | refine kD ?_ | refine kA ?_ _)); exact BK323.out)) : gb323 ≠ gb341)); have n8_ := Aside0.mk ((by rw [hg]; exact Nat.ne_of_gt (blk_lt (g := gb323) (o := .cells #[.int .u8 a3_0, .int .i64 a3_1, .int .i64 a3_2, .int .i64 a3_3, .int .i64 a3_4, .int .u8 a3_5] 28 (0, 0)) (by (with_reducible repeat (first | refine kN ?_ _ | refine kD ?_ | refine kA ?_ _)); exact BK323.out)) : gb341 ≠ gb323)); have n9_ := Aside0.mk ((by rw [hg]; exact Nat.ne_of_lt (blk_lt (g := gb332) (o := .cells #[.int .i64 t324, .int .i64 t325, .int .u8 t326, .int .i64 t327, .int .i64 t328, .int .i64 t329, .int .i64 t330, .bool t331] 25 (0, 0)) (by (with_reducible repeat (first | refine kN ?_ _ | refine kD ?_ | refine kA ?_ _)); exact BK332.out)) : gb332 ≠ gb341)); have n10_ := Aside0.mk ((by rw [hg]; exact Nat.ne_of_gt (blk_lt (g := gb332) (o := .cells #[.int .i64 t324, .int .i64 t325, .int .u8 t326, .int .i64 t327, .int .i64 t328, .int .i64 t329, .int .i64 t330, .bool t331] 25 (0, 0)) (by (with_reducible repeat (first | refine kN ?_ _ | refine kD ?_ | refine kA ?_ _)); exact BK332.out)) : gb341 ≠ gb332)); have n11_ := Aside0.mk ((by rw [hg]; exact Nat.ne_of_lt (blk_lt (g := gb340) (o := .cells #[.int .u8 t333, .int .i64 t334, .int .i64 t335, .int .i64 t336, .int .i64 t337, .int .u8 t338] 28 (0, 0)) (by (with_reducible repeat (first | refine kN ?_ _ | refine kD ?_ | refine kA ?_ _)); exact BK340.out)) : gb340 ≠ gb341)); have n12_ := Aside0.mk ((by rw [hg]; exact Nat.ne_of_gt (blk_lt (g := gb340) (o := .cells #[.int .u8 t333, .int .i64 t334, .int .i64 t335, .int .i64 t336, .int .i64 t337, .int .u8 t338] 28 (0, 0)) (by (with_reducible repeat (first | refine kN ?_ _ | refine kD ?_ | refine kA ?_ _)); exact BK340.out)) : gb341 ≠ gb340)); clear BK323; clear BK332; clear BK340; clear HB; have BK323 := n0_; have BK332 := n1_; have BK340 := n2_; have HB := n3_; have BK341 := n4_; have GW341 := n5_; have GE341 := n6_; have NB323_341 := n7_; have NB341_323 := n8_; have NB332_341 := n9_; have NB341_332 := n10_; have NB340_341 := n11_; have NB341_340 := n12_; clear n0_ n1_ n2_ n3_ n4_ n5_ n6_ n7_ n8_ n9_ n10_ n11_ n12_; clear hb hbox hg; have hnb29 := NB341_323.out; have hnc29 := NB323_341.out; have hnb30 := NB341_332.out; have hnc30 := NB332_341.out; have hnb31 := NB341_340.out; have hnc31 := NB340_341.out; have hcz32_0 : w28.cell? ⟨gb341, 0, none⟩ = some (.int .u8 0) := (kC BK341.out 0).trans rfl; have hcz32_1 : w28.cell? ⟨gb341, 1, none⟩ = some (.int .i64 0) := (kC BK341.out 1).trans rfl; have hcz32_2 : w28.cell? ⟨gb341, 2, none⟩ = some (.int .i64 0) := (kC BK341.out 2).trans rfl; have hcz32_3 : w28.cell? ⟨gb341, 3, none⟩ = some (.int .i64 0) := (kC BK341.out 3).trans rfl; have hcz32_4 : w28.cell? ⟨gb341, 4, none⟩ = some (.int .i64 0) := (kC BK341.out 4).trans rfl; have hcz32_5 : w28.cell? ⟨gb341, 5, none⟩ = some (.int .u8 0) := (kC BK341.out 5).trans rfl; have hfz32_0 := kF BK341.out 0; have hfz32_1 := kF BK341.out 1; have hfz32_2 := kF BK341.out 2; have hfz32_3 := kF BK341.out 3; have hfz32_4 := kF BK341.out 4; have hfz32_5 := kF BK341.out 5; have hnb33 := NB323_332.out; have hnc33 := NB332_323.out; have hcz34_0 : w28.cell? ⟨gb323, 0, none⟩ = some (.int .u8 a3_0) := (kC BK323.out 0).trans rfl; have hcz34_1 : w28.cell? ⟨gb323, 1, none⟩ = some (.int .i64 a3_1) := (kC BK323.out 1).trans rfl; have hcz34_2 : w28.cell? ⟨gb323, 2, none⟩ = some (.int .i64 a3_2) := (kC BK323.out 2).trans rfl; have hcz34_3 : w28.cell? ⟨gb323, 3, none⟩ = some (.int .i64 a3_3) := (kC BK323.out 3).trans rfl; have hcz34_4 : w28.cell? ⟨gb323, 4, none⟩ = some (.int .i64 a3_4) := (kC BK323.out 4).trans rfl; have hcz34_5 : w28.cell? ⟨gb323, 5, none⟩ = some (.int .u8 a3_5) := (kC BK323.out 5).trans rfl; have hfz34_0 := kF BK323.out 0; have hfz34_1 := kF BK323.out 1; have hfz34_2 := kF BK323.out 2; have hfz34_3 := kF BK323.out 3; have hfz34_4 := kF BK323.out 4; have hfz34_5 := kF BK323.out 5) | ((with_reducible refine gate_dst (N := 71) rfl ?_); refine wpList_load_row rfl 28 (.tmp 18) rfl gb341 rfl 28 #[.int .u8 t333, .int .i64 (wrap64 (t334 + 1)), .int .i64 t335, .int .i64 t336, .int .i64 t337, .int .u8 1] (0, 0) _ (by (with_reducible repeat (first | refine kN ?_ _ | refine kD ?_ | refine kA ?_ _)); refine kP (cs := #[.int .u8 t333, .int .i64 t334, .int .i64 t335, .int .i64 t336, .int .i64 t337, .int .u8 1]) ?_ 1 _ rfl; (with_reducible repeat (first | refine kN ?_ _ | refine kD ?_ | refine kA ?_ _)); refine kP (cs := #[.int .u8 t333, .int .i64 t334, .int .i64 t335, .int .i64 t336, .int .i64 t337, .int .u8 t338]) ?_ 5 _ rfl; (with_reducible repeat (first | refine kN ?_ _ | refine kD ?_ | refine kA ?_ _)); refine kP (cs := #[.int .u8 t333, .int .i64 t334, .int .i64 t335, .int .i64 t336, .int .i64 t337, .int .u8 0]) ?_ 5 _ rfl; (with_reducible repeat (first | refine kN ?_ _ | refine kD ?_ | refine kA ?_ _)); refine kP (cs := #[.int .u8 t333, .int .i64 t334, .int .i64 t335, .int .i64 t336, .int .i64 0, .int .u8 0]) ?_ 4 _ rfl; (with_reducible repeat (first | refine kN ?_ _ | refine kD ?_ | refine kA ?_ _)); refine kP (cs := #[.int .u8 t333, .int .i64 t334, .int .i64 t335, .int .i64 0, .int .i64 0, .int .u8 0]) ?_ 3 _ rfl; (with_reducible repeat (first | refine kN ?_ _ | refine kD ?_ | refine kA ?_ _)); refine kP (cs := #[.int .u8 t333, .int .i64 t334, .int .i64 0, .int .i64 0, .int .i64 0, .int .u8 0]) ?_ 2 _ rfl; (with_reducible repeat (first | refine kN ?_ _ | refine kD ?_ | refine kA ?_ _)); refine kP (cs := #[.int .u8 t333, .int .i64 0, .int .i64 0, .int .i64 0, .int .i64 0, .int .u8 0]) ?_ 1 _ rfl; (with_reducible repeat (first | refine kN ?_ _ | refine kD ?_ | refine kA ?_ _)); refine kP (cs := #[.int .u8 0, .int .i64 0, .int .i64 0, .int .i64 0, .int .i64 0, .int .u8 0]) ?_ 0 _ rfl; (with_reducible repeat (first | refine kN ?_ _ | refine kD ?_ | refine kA ?_ _)); exact BK341.out) Tryd.underlying28 rfl (by kernel_rfl) ?_) | ((with_reducible refine gate_store (t := 28) (p := 10) rfl ?_); refine store_event (t := 28) (p := 10) (v := ?vo_w35) (w1 := ((((((((((((((w28.setCell ⟨gb341, 0, none⟩ (.int .u8 t333)).setCell ⟨gb341, 1, none⟩ (.int .i64 t334)).setCell ⟨gb341, 2, none⟩ (.int .i64 t335)).setCell ⟨gb341, 3, none⟩ (.int .i64 t336)).setCell ⟨gb341, 4, none⟩ (.int .i64 t337)).setCell ⟨gb341, 5, none⟩ (.int .u8 t338)).setCell ⟨gb341, 5, none⟩ (.int .u8 1)).setCell ⟨gb341, 1, none⟩ (.int .i64 (wrap64 (t334 + 1)))).setCell ⟨gb323, 0, none⟩ (.int .u8 t333)).setCell ⟨gb323, 1, none⟩ (.int .i64 (wrap64 (t334 + 1)))).setCell ⟨gb323, 2, none⟩ (.int .i64 t335)).setCell ⟨gb323, 3, none⟩ (.int .i64 t336)).setCell ⟨gb323, 4, none⟩ (.int .i64 t337)).setCell ⟨gb323, 5, none⟩ (.int .u8 1))) ?hg ?ho ?hn ?hr ?_; (case ho => rfl); (case hg => rfl); (case hn => rfl); (case hr => first | (go_simp; done) | (go_simp; rfl)); intro w35 hw; have n0_ : Aside0 (w35.heap[gb323]? = some (.cells #[.int .u8 t333, .int .i64 (wrap64 (t334 + 1)), .int .i64 t335, .int .i64 t336, .int .i64 t337, .int .u8 1] 28 (0, 0))) := ⟨(by rw [hw]; exact (by (with_reducible repeat (first | refine kN ?_ _ | refine kD ?_ | refine kA ?_ _)); refine kP (cs := #[.int .u8 t333, .int .i64 (wrap64 (t334 + 1)), .int .i64 t335, .int .i64 t336, .int .i64 t337, .int .u8 a3_5]) ?_ 5 _ rfl; (with_reducible repeat (first | refine kN ?_ _ | refine kD ?_ | refine kA ?_ _)); refine kP (cs := #[.int .u8 t333, .int .i64 (wrap64 (t334 + 1)), .int .i64 t335, .int .i64 t336, .int .i64 a3_4, .int .u8 a3_5]) ?_ 4 _ rfl; (with_reducible repeat (first | refine kN ?_ _ | refine kD ?_ | refine kA ?_ _)); refine kP (cs := #[.int .u8 t333, .int .i64 (wrap64 (t334 + 1)), .int .i64 t335, .int .i64 a3_3, .int .i64 a3_4, .int .u8 a3_5]) ?_ 3 _ rfl; (with_reducible repeat (first | refine kN ?_ _ | refine kD ?_ | refine kA ?_ _)); refine kP (cs := #[.int .u8 t333, .int .i64 (wrap64 (t334 + 1)), .int .i64 a3_2, .int .i64 a3_3, .int .i64 a3_4, .int .u8 a3_5]) ?_ 2 _ rfl; (with_reducible repeat (first | refine kN ?_ _ | refine kD ?_ | refine kA ?_ _)); refine kP (cs := #[.int .u8 t333, .int .i64 a3_1, .int .i64 a3_2, .int .i64 a3_3, .int .i64 a3_4, .int .u8 a3_5]) ?_ 1 _ rfl; (with_reducible repeat (first | refine kN ?_ _ | refine kD ?_ | refine kA ?_ _)); refine kP (cs := #[.int .u8 a3_0, .int .i64 a3_1, .int .i64 a3_2, .int .i64 a3_3, .int .i64 a3_4, .int .u8 a3_5]) ?_ 0 _ rfl; (with_reducible repeat (first | refine kN ?_ _ | refine kD ?_ | refine kA ?_ _)); refine kR ?_ NB323_341.out _; (with_reducible repeat (first | refine kN ?_ _ | refine kD ?_ | refine kA ?_ _)); refine kR ?_ NB323_341.out _; (with_reducible repeat (first | refine kN ?_ _ | refine kD ?_ | refine kA ?_ _)); refine kR ?_ NB323_341.out _; (with_reducible repeat (first | refine kN ?_ _ | refine kD ?_ | refine kA ?_ _)); refine kR ?_ NB323_341.out _; (with_reducible repeat (first | refine kN ?_ _ | refine kD ?_ | refine kA ?_ _)); refine kR ?_ NB323_341.out _; (with_reducible repeat (first | refine kN ?_ _ | refine kD ?_ | refine kA ?_ _)); refine kR ?_ NB323_341.out _; (with_reducible repeat (first | refine kN ?_ _ | refine kD ?_ | refine kA ?_ _)); refine kR ?_ NB323_341.out _; (with_reducible repeat (first | refine kN ?_ _ | refine kD ?_ | refine kA ?_ _)); refine kR ?_ NB323_341.out _; (with_reducible repeat (first | refine kN ?_ _ | refine kD ?_ | refine kA ?_ _)); exact BK323.out))⟩; have n1_ : Aside0 (w35.heap[gb332]? = some (.cells #[.int .i64 t324, .int .i64 t325, .int .u8 t326, .int .i64 t327, .int .i64 t328, .int .i64 t329, .int .i64 t330, .bool t331] 25 (0, 0))) := ⟨(by rw [hw]; exact (by (with_reducible repeat (first | refine kN ?_ _ | refine kD ?_ | refine kA ?_ _)); refine kR ?_ NB332_323.out _; (with_reducible repeat (first | refine kN ?_ _ | refine kD ?_ | refine kA ?_ _)); refine kR ?_ NB332_323.out _; (with_reducible repeat (first | refine kN ?_ _ | refine kD ?_ | refine kA ?_ _)); refine kR ?_ NB332_323.out _; (with_reducible repeat (first | refine kN ?_ _ | refine kD ?_ | refine kA ?_ _)); refine kR ?_ NB332_323.out _; (with_reducible repeat (first | refine kN ?_ _ | refine kD ?_ | refine kA ?_ _)); refine kR ?_ NB332_323.out _; (with_reducible repeat (first | refine kN ?_ _ | refine kD ?_ | refine kA ?_ _)); refine kR ?_ NB332_323.out _; (with_reducible repeat (first | refine kN ?_ _ | refine kD ?_ | refine kA ?_ _)); refine kR ?_ NB332_341.out _; (with_reducible repeat (first | refine kN ?_ _ | refine kD ?_ | refine kA ?_ _)); refine kR ?_ NB332_341.out _; (with_reducible repeat (first | refine kN ?_ _ | refine kD ?_ | refine kA ?_ _)); refine kR ?_ NB332_341.out _; (with_reducible repeat (first | refine kN ?_ _ | refine kD ?_ | refine kA ?_ _)); refine kR ?_ NB332_341.out _; (with_reducible repeat (first | refine kN ?_ _ | refine kD ?_ | refine kA ?_ _)); refine kR ?_ NB332_341.out _; (with_reducible repeat (first | refine kN ?_ _ | refine kD ?_ | refine kA ?_ _)); refine kR ?_ NB332_341.out _; (with_reducible repeat (first | refine kN ?_ _ | refine kD ?_ | refine kA ?_ _)); refine kR ?_ NB332_341.out _; (with_reducible repeat (first | refine kN ?_ _ | refine kD ?_ | refine kA ?_ _)); refine kR ?_ NB332_341.out _; (with_reducible repeat (first | refine kN ?_ _ | refine kD ?_ | refine kA ?_ _)); exact BK332.out))⟩; have n2_ : Aside0 (w35.heap[gb340]? = some (.cells #[.int .u8 t333, .int .i64 t334, .int .i64 t335, .int .i64 t336, .int .i64 t337, .int .u8 t338] 28 (0, 0))) := ⟨(by rw [hw]; exact (by (with_reducible repeat (first | refine kN ?_ _ | refine kD ?_ | refine kA ?_ _)); refine kR ?_ NB340_323.out _; (with_reducible repeat (first | refine kN ?_ _ | refine kD ?_ | refine kA ?_ _)); refine kR ?_ NB340_323.out _; (with_reducible repeat (first | refine kN ?_ _ | refine kD ?_ | refine kA ?_ _)); refine kR ?_ NB340_323.out _; (with_reducible repeat (first | refine kN ?_ _ | refine kD ?_ | refine kA ?_ _)); refine kR ?_ NB340_323.out _; (with_reducible repeat (first | refine kN ?_ _ | refine kD ?_ | refine kA ?_ _)); refine kR ?_ NB340_323.out _; (with_reducible repeat (first | refine kN ?_ _ | refine kD ?_ | refine kA ?_ _)); refine kR ?_ NB340_323.out _; (with_reducible repeat (first | refine kN ?_ _ | refine kD ?_ | refine kA ?_ _)); refine kR ?_ NB340_341.out _; (with_reducible repeat (first | refine kN ?_ _ | refine kD ?_ | refine kA ?_ _)); refine kR ?_ NB340_341.out _; (with_reducible repeat (first | refine kN ?_ _ | refine kD ?_ | refine kA ?_ _)); refine kR ?_ NB340_341.out _; (with_reducible repeat (first | refine kN ?_ _ | refine kD ?_ | refine kA ?_ _)); refine kR ?_ NB340_341.out _; (with_reducible repeat (first | refine kN ?_ _ | refine kD ?_ | refine kA ?_ _)); refine kR ?_ NB340_341.out _; (with_reducible repeat (first | refine kN ?_ _ | refine kD ?_ | refine kA ?_ _)); refine kR ?_ NB340_341.out _; (with_reducible repeat (first | refine kN ?_ _ | refine kD ?_ | refine kA ?_ _)); refine kR ?_ NB340_341.out _; (with_reducible repeat (first | refine kN ?_ _ | refine kD ?_ | refine kA ?_ _)); refine kR ?_ NB340_341.out _; (with_reducible repeat (first | refine kN ?_ _ | refine kD ?_ | refine kA ?_ _)); exact BK340.out))⟩; have n3_ : Aside0 (w35.heap[gb341]? = some (.cells #[.int .u8 t333, .int .i64 (wrap64 (t334 + 1)), .int .i64 t335, .int .i64 t336, .int .i64 t337, .int .u8 1] 28 (0, 0))) := ⟨(by rw [hw]; exact (by (with_reducible repeat (first | refine kN ?_ _ | refine kD ?_ | refine kA ?_ _)); refine kR ?_ NB341_323.out _; (with_reducible repeat (first | refine kN ?_ _ | refine kD ?_ | refine kA ?_ _)); refine kR ?_ NB341_323.out _; (with_reducible repeat (first | refine kN ?_ _ | refine kD ?_ | refine kA ?_ _)); refine kR ?_ NB341_323.out _; (with_reducible repeat (first | refine kN ?_ _ | refine kD ?_ | refine kA ?_ _)); refine kR ?_ NB341_323.out _; (with_reducible repeat (first | refine kN ?_ _ | refine kD ?_ | refine kA ?_ _)); refine kR ?_ NB341_323.out _; (with_reducible repeat (first | refine kN ?_ _ | refine kD ?_ | refine kA ?_ _)); refine kR ?_ NB341_323.out _; (with_reducible repeat (first | refine kN ?_ _ | refine kD ?_ | refine kA ?_ _)); refine kP (cs := #[.int .u8 t333, .int .i64 t334, .int .i64 t335, .int .i64 t336, .int .i64 t337, .int .u8 1]) ?_ 1 _ rfl; (with_reducible repeat (first | refine kN ?_ _ | refine kD ?_ | refine kA ?_ _)); refine kP (cs := #[.int .u8 t333, .int .i64 t334, .int .i64 t335, .int .i64 t336, .int .i64 t337, .int .u8 t338]) ?_ 5 _ rfl; (with_reducible repeat (first | refine kN ?_ _ | refine kD ?_ | refine kA ?_ _)); refine kP (cs := #[.int .u8 t333, .int .i64 t334, .int .i64 t335, .int .i64 t336, .int .i64 t337, .int .u8 0]) ?_ 5 _ rfl; (with_reducible repeat (first | refine kN ?_ _ | refine kD ?_ | refine kA ?_ _)); refine kP (cs := #[.int .u8 t333, .int .i64 t334, .int .i64 t335, .int .i64 t336, .int .i64 0, .int .u8 0]) ?_ 4 _ rfl; (with_reducible repeat (first | refine kN ?_ _ | refine kD ?_ | refine kA ?_ _)); refine kP (cs := #[.int .u8 t333, .int .i64 t334, .int .i64 t335, .int .i64 0, .int .i64 0, .int .u8 0]) ?_ 3 _ rfl; (with_reducible repeat (first | refine kN ?_ _ | refine kD ?_ | refine kA ?_ _)); refine kP (cs := #[.int .u8 t333, .int .i64 t334, .int .i64 0, .int .i64 0, .int .i64 0, .int .u8 0]) ?_ 2 _ rfl; (with_reducible repeat (first | refine kN ?_ _ | refine kD ?_ | refine kA ?_ _)); refine kP (cs := #[.int .u8 t333, .int .i64 0, .int .i64 0, .int .i64 0, .int .i64 0, .int .u8 0]) ?_ 1 _ rfl; (with_reducible repeat (first | refine kN ?_ _ | refine kD ?_ | refine kA ?_ _)); refine kP (cs := #[.int .u8 0, .int .i64 0, .int .i64 0, .int .i64 0, .int .i64 0, .int .u8 0]) ?_ 0 _ rfl; (with_reducible repeat (first | refine kN ?_ _ | refine kD ?_ | refine kA ?_ _)); exact BK341.out))⟩; have n4_ : Aside0 (Below w.heap.size w w35) := ⟨(by rw [hw]; exact (by repeat (first | (with_reducible first | exact HB.out | apply kL | apply kM | apply kE | refine kS ?_ GE323.out | refine kS ?_ GE332.out | refine kS ?_ GE340.out | refine kS ?_ GE341.out) | exact HB.out)))⟩; clear hw; clear BK323; clear BK332; clear BK340; clear BK341; clear HB; have BK323 := n0_; have BK332 := n1_; have BK340 := n2_; have BK341 := n3_; have HB := n4_; clear n0_ n1_ n2_ n3_ n4_))
      go_meet
      case rel => exact ⟨_, (t333), (wrap64 (t334 + 1)), (t335), (t336), (t337), (1), H', ⟨by have := HJ9.out; first | omega | exact Nat.le_refl _⟩, ⟨by (with_reducible repeat (first | refine kN ?_ _ | refine kD ?_ | refine kA ?_ _)); exact BK323.out⟩, ⟨by (with_reducible repeat (first | refine kN ?_ _ | refine kD ?_ | refine kA ?_ _)); exact BK332.out⟩, ⟨by (with_reducible repeat (first | refine kN ?_ _ | refine kD ?_ | refine kA ?_ _)); exact BK340.out⟩, ⟨by repeat (first | (with_reducible first | exact HB.out | apply kL | apply kM | apply kE | refine kS ?_ GE323.out | refine kS ?_ GE332.out | refine kS ?_ GE340.out | refine kS ?_ GE341.out) | exact HB.out)⟩⟩
     ·rw [if_neg c24] at H
      have c24b0 : ((Int.tmod a4 6) == 0) = false := beq_eq_false_iff_ne.mpr c24
      have c24b1 : ((Int.tmod a4 6) != 0) = true := bne_iff_ne.mpr c24
      (first | (generalize hg_ : ((Int.tmod a4 6) == 0) = bg_ at *; subst c24b0; have c24b0 := hg_; clear hg_) | rw [c24b0] | (simp only [i64_w, i32_w]; rw [c24b0]) | skip)
      by_cases c36 : (Int.tmod a4 6) = 1
      ·rw [if_pos c36] at H
       have c36b0 : ((Int.tmod a4 6) == 1) = true := beq_iff_eq.mpr c36
       have c36b1 : ((Int.tmod a4 6) != 1) = false := bne_eq_false_iff_eq.mpr c36
       clear c36
       have H' := Aside0.mk H
       clear H
       have hnb37 := NB340_323.out
       have hnc37 := NB323_340.out
       have hnb38 := NB340_332.out
       have hnc38 := NB332_340.out
       have hcz39_0 : wc.cell? ⟨gb340, 0, none⟩ = some (.int .u8 t333) := (kC BK340.out 0).trans rfl
       have hcz39_1 : wc.cell? ⟨gb340, 1, none⟩ = some (.int .i64 t334) := (kC BK340.out 1).trans rfl
       have hcz39_2 : wc.cell? ⟨gb340, 2, none⟩ = some (.int .i64 t335) := (kC BK340.out 2).trans rfl
       have hcz39_3 : wc.cell? ⟨gb340, 3, none⟩ = some (.int .i64 t336) := (kC BK340.out 3).trans rfl
       have hcz39_4 : wc.cell? ⟨gb340, 4, none⟩ = some (.int .i64 t337) := (kC BK340.out 4).trans rfl
       have hcz39_5 : wc.cell? ⟨gb340, 5, none⟩ = some (.int .u8 t338) := (kC BK340.out 5).trans rfl
       have hfz39_0 := kF BK340.out 0
       have hfz39_1 := kF BK340.out 1
       have hfz39_2 := kF BK340.out 2
       have hfz39_3 := kF BK340.out 3
       have hfz39_4 := kF BK340.out 4
       have hfz39_5 := kF BK340.out 5
       go_wp2_with (first | ((with_reducible refine gate_dst (N := 18) rfl ?_); refine box_event ?hg (N := 18) ?hd (cs := #[.int .u8 0, .int .i64 0, .int .i64 0, .int .i64 0, .int .i64 0, .int .u8 0]) (t := 28) ?hr ?_; (case hd => rfl); (case hg => rfl); (case hr => first | (go_simp; done) | (go_simp; rfl)); intro gb341 hg w40 hbox hb; have n0_ := Aside0.mk (blk_below (g := gb323) (o := .cells #[.int .u8 a3_0, .int .i64 a3_1, .int .i64 a3_2, .int .i64 a3_3, .int .i64 a3_4, .int .u8 a3_5] 28 (0, 0)) (by (with_reducible repeat (first | refine kN ?_ _ | refine kD ?_ | refine kA ?_ _)); exact BK323.out) hb); have n1_ := Aside0.mk (blk_below (g := gb332) (o := .cells #[.int .i64 t324, .int .i64 t325, .int .u8 t326, .int .i64 t327, .int .i64 t328, .int .i64 t329, .int .i64 t330, .bool t331] 25 (0, 0)) (by (with_reducible repeat (first | refine kN ?_ _ | refine kD ?_ | refine kA ?_ _)); exact BK332.out) hb); have n2_ := Aside0.mk (blk_below (g := gb340) (o := .cells #[.int .u8 t333, .int .i64 t334, .int .i64 t335, .int .i64 t336, .int .i64 t337, .int .u8 t338] 28 (0, 0)) (by (with_reducible repeat (first | refine kN ?_ _ | refine kD ?_ | refine kA ?_ _)); exact BK340.out) hb); have n3_ := Aside0.mk (below_step (by repeat (first | (with_reducible first | exact HB.out | apply kL | apply kM | apply kE | refine kS ?_ GE323.out | refine kS ?_ GE332.out | refine kS ?_ GE340.out) | exact HB.out)) hb); have n4_ := Aside0.mk (hbox); have n5_ := Aside0.mk ((by rw [hg]; exact (below_size (by repeat (first | (with_reducible first | exact HB.out | apply kL | apply kM | apply kE | refine kS ?_ GE323.out | refine kS ?_ GE332.out | refine kS ?_ GE340.out) | exact HB.out))) : w.heap.size ≤ gb341)); have n6_ := Aside0.mk ((by rw [hg]; exact (below_size (by repeat (first | (with_reducible first | exact HB.out | apply kL | apply kM | apply kE | refine kS ?_ GE323.out | refine kS ?_ GE332.out | refine kS ?_ GE340.out) | exact HB.out))) : w.heap.size ≤ gb341)); have n7_ := Aside0.mk ((by rw [hg]; exact Nat.ne_of_lt (blk_lt (g := gb323) (o := .cells #[.int .u8 a3_0, .int .i64 a3_1, .int .i64 a3_2, .int .i64 a3_3, .int .i64 a3_4, .int .u8 a3_5] 28 (0, 0)) (by (with_reducible repeat (first | refine kN ?_ _ | refine kD ?_ | refine kA ?_ _)); exact BK323.out)) : gb323 ≠ gb341)); have n8_ := Aside0.mk ((by rw [hg]; exact Nat.ne_of_gt (blk_lt (g := gb323) (o := .cells #[.int .u8 a3_0, .int .i64 a3_1, .int .i64 a3_2, .int .i64 a3_3, .int .i64 a3_4, .int .u8 a3_5] 28 (0, 0)) (by (with_reducible repeat (first | refine kN ?_ _ | refine kD ?_ | refine kA ?_ _)); exact BK323.out)) : gb341 ≠ gb323)); have n9_ := Aside0.mk ((by rw [hg]; exact Nat.ne_of_lt (blk_lt (g := gb332) (o := .cells #[.int .i64 t324, .int .i64 t325, .int .u8 t326, .int .i64 t327, .int .i64 t328, .int .i64 t329, .int .i64 t330, .bool t331] 25 (0, 0)) (by (with_reducible repeat (first | refine kN ?_ _ | refine kD ?_ | refine kA ?_ _)); exact BK332.out)) : gb332 ≠ gb341)); have n10_ := Aside0.mk ((by rw [hg]; exact Nat.ne_of_gt (blk_lt (g := gb332) (o := .cells #[.int .i64 t324, .int .i64 t325, .int .u8 t326, .int .i64 t327, .int .i64 t328, .int .i64 t329, .int .i64 t330, .bool t331] 25 (0, 0)) (by (with_reducible repeat (first | refine kN ?_ _ | refine kD ?_ | refine kA ?_ _)); exact BK332.out)) : gb341 ≠ gb332)); have n11_ := Aside0.mk ((by rw [hg]; exact Nat.ne_of_lt (blk_lt (g := gb340) (o := .cells #[.int .u8 t333, .int .i64 t334, .int .i64 t335, .int .i64 t336, .int .i64 t337, .int .u8 t338] 28 (0, 0)) (by (with_reducible repeat (first | refine kN ?_ _ | refine kD ?_ | refine kA ?_ _)); exact BK340.out)) : gb340 ≠ gb341)); have n12_ := Aside0.mk ((by rw [hg]; exact Nat.ne_of_gt (blk_lt (g := gb340) (o := .cells #[.int .u8 t333, .int .i64 t334, .int .i64 t335, .int .i64 t336, .int .i64 t337, .int .u8 t338] 28 (0, 0)) (by (with_reducible repeat (first | refine kN ?_ _ | refine kD ?_ | refine kA ?_ _)); exact BK340.out)) : gb341 ≠ gb340)); clear BK323; clear BK332; clear BK340; clear HB; have BK323 := n0_; have BK332 := n1_; have BK340 := n2_; have HB := n3_; have BK341 := n4_; have GW341 := n5_; have GE341 := n6_; have NB323_341 := n7_; have NB341_323 := n8_; have NB332_341 := n9_; have NB341_332 := n10_; have NB340_341 := n11_; have NB341_340 := n12_; clear n0_ n1_ n2_ n3_ n4_ n5_ n6_ n7_ n8_ n9_ n10_ n11_ n12_; clear hb hbox hg; have hnb41 := NB341_323.out; have hnc41 := NB323_341.out; have hnb42 := NB341_332.out; have hnc42 := NB332_341.out; have hnb43 := NB341_340.out; have hnc43 := NB340_341.out; have hcz44_0 : w40.cell? ⟨gb341, 0, none⟩ = some (.int .u8 0) := (kC BK341.out 0).trans rfl; have hcz44_1 : w40.cell? ⟨gb341, 1, none⟩ = some (.int .i64 0) := (kC BK341.out 1).trans rfl; have hcz44_2 : w40.cell? ⟨gb341, 2, none⟩ = some (.int .i64 0) := (kC BK341.out 2).trans rfl; have hcz44_3 : w40.cell? ⟨gb341, 3, none⟩ = some (.int .i64 0) := (kC BK341.out 3).trans rfl; have hcz44_4 : w40.cell? ⟨gb341, 4, none⟩ = some (.int .i64 0) := (kC BK341.out 4).trans rfl; have hcz44_5 : w40.cell? ⟨gb341, 5, none⟩ = some (.int .u8 0) := (kC BK341.out 5).trans rfl; have hfz44_0 := kF BK341.out 0; have hfz44_1 := kF BK341.out 1; have hfz44_2 := kF BK341.out 2; have hfz44_3 := kF BK341.out 3; have hfz44_4 := kF BK341.out 4; have hfz44_5 := kF BK341.out 5; have hnb45 := NB323_332.out; have hnc45 := NB332_323.out; have hcz46_0 : w40.cell? ⟨gb323, 0, none⟩ = some (.int .u8 a3_0) := (kC BK323.out 0).trans rfl; have hcz46_1 : w40.cell? ⟨gb323, 1, none⟩ = some (.int .i64 a3_1) := (kC BK323.out 1).trans rfl; have hcz46_2 : w40.cell? ⟨gb323, 2, none⟩ = some (.int .i64 a3_2) := (kC BK323.out 2).trans rfl; have hcz46_3 : w40.cell? ⟨gb323, 3, none⟩ = some (.int .i64 a3_3) := (kC BK323.out 3).trans rfl; have hcz46_4 : w40.cell? ⟨gb323, 4, none⟩ = some (.int .i64 a3_4) := (kC BK323.out 4).trans rfl; have hcz46_5 : w40.cell? ⟨gb323, 5, none⟩ = some (.int .u8 a3_5) := (kC BK323.out 5).trans rfl; have hfz46_0 := kF BK323.out 0; have hfz46_1 := kF BK323.out 1; have hfz46_2 := kF BK323.out 2; have hfz46_3 := kF BK323.out 3; have hfz46_4 := kF BK323.out 4; have hfz46_5 := kF BK323.out 5) | ((with_reducible refine gate_dst (N := 71) rfl ?_); refine wpList_load_row rfl 28 (.tmp 18) rfl gb341 rfl 28 #[.int .u8 t333, .int .i64 t334, .int .i64 (wrap64 (t335 + 1)), .int .i64 t336, .int .i64 t337, .int .u8 1] (0, 0) _ (by (with_reducible repeat (first | refine kN ?_ _ | refine kD ?_ | refine kA ?_ _)); refine kP (cs := #[.int .u8 t333, .int .i64 t334, .int .i64 t335, .int .i64 t336, .int .i64 t337, .int .u8 1]) ?_ 2 _ rfl; (with_reducible repeat (first | refine kN ?_ _ | refine kD ?_ | refine kA ?_ _)); refine kP (cs := #[.int .u8 t333, .int .i64 t334, .int .i64 t335, .int .i64 t336, .int .i64 t337, .int .u8 t338]) ?_ 5 _ rfl; (with_reducible repeat (first | refine kN ?_ _ | refine kD ?_ | refine kA ?_ _)); refine kP (cs := #[.int .u8 t333, .int .i64 t334, .int .i64 t335, .int .i64 t336, .int .i64 t337, .int .u8 0]) ?_ 5 _ rfl; (with_reducible repeat (first | refine kN ?_ _ | refine kD ?_ | refine kA ?_ _)); refine kP (cs := #[.int .u8 t333, .int .i64 t334, .int .i64 t335, .int .i64 t336, .int .i64 0, .int .u8 0]) ?_ 4 _ rfl; (with_reducible repeat (first | refine kN ?_ _ | refine kD ?_ | refine kA ?_ _)); refine kP (cs := #[.int .u8 t333, .int .i64 t334, .int .i64 t335, .int .i64 0, .int .i64 0, .int .u8 0]) ?_ 3 _ rfl; (with_reducible repeat (first | refine kN ?_ _ | refine kD ?_ | refine kA ?_ _)); refine kP (cs := #[.int .u8 t333, .int .i64 t334, .int .i64 0, .int .i64 0, .int .i64 0, .int .u8 0]) ?_ 2 _ rfl; (with_reducible repeat (first | refine kN ?_ _ | refine kD ?_ | refine kA ?_ _)); refine kP (cs := #[.int .u8 t333, .int .i64 0, .int .i64 0, .int .i64 0, .int .i64 0, .int .u8 0]) ?_ 1 _ rfl; (with_reducible repeat (first | refine kN ?_ _ | refine kD ?_ | refine kA ?_ _)); refine kP (cs := #[.int .u8 0, .int .i64 0, .int .i64 0, .int .i64 0, .int .i64 0, .int .u8 0]) ?_ 0 _ rfl; (with_reducible repeat (first | refine kN ?_ _ | refine kD ?_ | refine kA ?_ _)); exact BK341.out) Tryd.underlying28 rfl (by kernel_rfl) ?_) | ((with_reducible refine gate_store (t := 28) (p := 10) rfl ?_); refine store_event (t := 28) (p := 10) (v := ?vo_w47) (w1 := ((((((((((((((w40.setCell ⟨gb341, 0, none⟩ (.int .u8 t333)).setCell ⟨gb341, 1, none⟩ (.int .i64 t334)).setCell ⟨gb341, 2, none⟩ (.int .i64 t335)).setCell ⟨gb341, 3, none⟩ (.int .i64 t336)).setCell ⟨gb341, 4, none⟩ (.int .i64 t337)).setCell ⟨gb341, 5, none⟩ (.int .u8 t338)).setCell ⟨gb341, 5, none⟩ (.int .u8 1)).setCell ⟨gb341, 2, none⟩ (.int .i64 (wrap64 (t335 + 1)))).setCell ⟨gb323, 0, none⟩ (.int .u8 t333)).setCell ⟨gb323, 1, none⟩ (.int .i64 t334)).setCell ⟨gb323, 2, none⟩ (.int .i64 (wrap64 (t335 + 1)))).setCell ⟨gb323, 3, none⟩ (.int .i64 t336)).setCell ⟨gb323, 4, none⟩ (.int .i64 t337)).setCell ⟨gb323, 5, none⟩ (.int .u8 1))) ?hg ?ho ?hn ?hr ?_; (case ho => rfl); (case hg => rfl); (case hn => rfl); (case hr => first | (go_simp; done) | (go_simp; rfl)); intro w47 hw; have n0_ : Aside0 (w47.heap[gb323]? = some (.cells #[.int .u8 t333, .int .i64 t334, .int .i64 (wrap64 (t335 + 1)), .int .i64 t336, .int .i64 t337, .int .u8 1] 28 (0, 0))) := ⟨(by rw [hw]; exact (by (with_reducible repeat (first | refine kN ?_ _ | refine kD ?_ | refine kA ?_ _)); refine kP (cs := #[.int .u8 t333, .int .i64 t334, .int .i64 (wrap64 (t335 + 1)), .int .i64 t336, .int .i64 t337, .int .u8 a3_5]) ?_ 5 _ rfl; (with_reducible repeat (first | refine kN ?_ _ | refine kD ?_ | refine kA ?_ _)); refine kP (cs := #[.int .u8 t333, .int .i64 t334, .int .i64 (wrap64 (t335 + 1)), .int .i64 t336, .int .i64 a3_4, .int .u8 a3_5]) ?_ 4 _ rfl; (with_reducible repeat (first | refine kN ?_ _ | refine kD ?_ | refine kA ?_ _)); refine kP (cs := #[.int .u8 t333, .int .i64 t334, .int .i64 (wrap64 (t335 + 1)), .int .i64 a3_3, .int .i64 a3_4, .int .u8 a3_5]) ?_ 3 _ rfl; (with_reducible repeat (first | refine kN ?_ _ | refine kD ?_ | refine kA ?_ _)); refine kP (cs := #[.int .u8 t333, .int .i64 t334, .int .i64 a3_2, .int .i64 a3_3, .int .i64 a3_4, .int .u8 a3_5]) ?_ 2 _ rfl; (with_reducible repeat (first | refine kN ?_ _ | refine kD ?_ | refine kA ?_ _)); refine kP (cs := #[.int .u8 t333, .int .i64 a3_1, .int .i64 a3_2, .int .i64 a3_3, .int .i64 a3_4, .int .u8 a3_5]) ?_ 1 _ rfl; (with_reducible repeat (first | refine kN ?_ _ | refine kD ?_ | refine kA ?_ _)); refine kP (cs := #[.int .u8 a3_0, .int .i64 a3_1, .int .i64 a3_2, .int .i64 a3_3, .int .i64 a3_4, .int .u8 a3_5]) ?_ 0 _ rfl; (with_reducible repeat (first | refine kN ?_ _ | refine kD ?_ | refine kA ?_ _)); refine kR ?_ NB323_341.out _; (with_reducible repeat (first | refine kN ?_ _ | refine kD ?_ | refine kA ?_ _)); refine kR ?_ NB323_341.out _; (with_reducible repeat (first | refine kN ?_ _ | refine kD ?_ | refine kA ?_ _)); refine kR ?_ NB323_341.out _; (with_reducible repeat (first | refine kN ?_ _ | refine kD ?_ | refine kA ?_ _)); refine kR ?_ NB323_341.out _; (with_reducible repeat (first | refine kN ?_ _ | refine kD ?_ | refine kA ?_ _)); refine kR ?_ NB323_341.out _; (with_reducible repeat (first | refine kN ?_ _ | refine kD ?_ | refine kA ?_ _)); refine kR ?_ NB323_341.out _; (with_reducible repeat (first | refine kN ?_ _ | refine kD ?_ | refine kA ?_ _)); refine kR ?_ NB323_341.out _; (with_reducible repeat (first | refine kN ?_ _ | refine kD ?_ | refine kA ?_ _)); refine kR ?_ NB323_341.out _; (with_reducible repeat (first | refine kN ?_ _ | refine kD ?_ | refine kA ?_ _)); exact BK323.out))⟩; have n1_ : Aside0 (w47.heap[gb332]? = some (.cells #[.int .i64 t324, .int .i64 t325, .int .u8 t326, .int .i64 t327, .int .i64 t328, .int .i64 t329, .int .i64 t330, .bool t331] 25 (0, 0))) := ⟨(by rw [hw]; exact (by (with_reducible repeat (first | refine kN ?_ _ | refine kD ?_ | refine kA ?_ _)); refine kR ?_ NB332_323.out _; (with_reducible repeat (first | refine kN ?_ _ | refine kD ?_ | refine kA ?_ _)); refine kR ?_ NB332_323.out _; (with_reducible repeat (first | refine kN ?_ _ | refine kD ?_ | refine kA ?_ _)); refine kR ?_ NB332_323.out _; (with_reducible repeat (first | refine kN ?_ _ | refine kD ?_ | refine kA ?_ _)); refine kR ?_ NB332_323.out _; (with_reducible repeat (first | refine kN ?_ _ | refine kD ?_ | refine kA ?_ _)); refine kR ?_ NB332_323.out _; (with_reducible repeat (first | refine kN ?_ _ | refine kD ?_ | refine kA ?_ _)); refine kR ?_ NB332_323.out _; (with_reducible repeat (first | refine kN ?_ _ | refine kD ?_ | refine kA ?_ _)); refine kR ?_ NB332_341.out _; (with_reducible repeat (first | refine kN ?_ _ | refine kD ?_ | refine kA ?_ _)); refine kR ?_ NB332_341.out _; (with_reducible repeat (first | refine kN ?_ _ | refine kD ?_ | refine kA ?_ _)); refine kR ?_ NB332_341.out _; (with_reducible repeat (first | refine kN ?_ _ | refine kD ?_ | refine kA ?_ _)); refine kR ?_ NB332_341.out _; (with_reducible repeat (first | refine kN ?_ _ | refine kD ?_ | refine kA ?_ _)); refine kR ?_ NB332_341.out _; (with_reducible repeat (first | refine kN ?_ _ | refine kD ?_ | refine kA ?_ _)); refine kR ?_ NB332_341.out _; (with_reducible repeat (first | refine kN ?_ _ | refine kD ?_ | refine kA ?_ _)); refine kR ?_ NB332_341.out _; (with_reducible repeat (first | refine kN ?_ _ | refine kD ?_ | refine kA ?_ _)); refine kR ?_ NB332_341.out _; (with_reducible repeat (first | refine kN ?_ _ | refine kD ?_ | refine kA ?_ _)); exact BK332.out))⟩; have n2_ : Aside0 (w47.heap[gb340]? = some (.cells #[.int .u8 t333, .int .i64 t334, .int .i64 t335, .int .i64 t336, .int .i64 t337, .int .u8 t338] 28 (0, 0))) := ⟨(by rw [hw]; exact (by (with_reducible repeat (first | refine kN ?_ _ | refine kD ?_ | refine kA ?_ _)); refine kR ?_ NB340_323.out _; (with_reducible repeat (first | refine kN ?_ _ | refine kD ?_ | refine kA ?_ _)); refine kR ?_ NB340_323.out _; (with_reducible repeat (first | refine kN ?_ _ | refine kD ?_ | refine kA ?_ _)); refine kR ?_ NB340_323.out _; (with_reducible repeat (first | refine kN ?_ _ | refine kD ?_ | refine kA ?_ _)); refine kR ?_ NB340_323.out _; (with_reducible repeat (first | refine kN ?_ _ | refine kD ?_ | refine kA ?_ _)); refine kR ?_ NB340_323.out _; (with_reducible repeat (first | refine kN ?_ _ | refine kD ?_ | refine kA ?_ _)); refine kR ?_ NB340_323.out _; (with_reducible repeat (first | refine kN ?_ _ | refine kD ?_ | refine kA ?_ _)); refine kR ?_ NB340_341.out _; (with_reducible repeat (first | refine kN ?_ _ | refine kD ?_ | refine kA ?_ _)); refine kR ?_ NB340_341.out _; (with_reducible repeat (first | refine kN ?_ _ | refine kD ?_ | refine kA ?_ _)); refine kR ?_ NB340_341.out _; (with_reducible repeat (first | refine kN ?_ _ | refine kD ?_ | refine kA ?_ _)); refine kR ?_ NB340_341.out _; (with_reducible repeat (first | refine kN ?_ _ | refine kD ?_ | refine kA ?_ _)); refine kR ?_ NB340_341.out _; (with_reducible repeat (first | refine kN ?_ _ | refine kD ?_ | refine kA ?_ _)); refine kR ?_ NB340_341.out _; (with_reducible repeat (first | refine kN ?_ _ | refine kD ?_ | refine kA ?_ _)); refine kR ?_ NB340_341.out _; (with_reducible repeat (first | refine kN ?_ _ | refine kD ?_ | refine kA ?_ _)); refine kR ?_ NB340_341.out _; (with_reducible repeat (first | refine kN ?_ _ | refine kD ?_ | refine kA ?_ _)); exact BK340.out))⟩; have n3_ : Aside0 (w47.heap[gb341]? = some (.cells #[.int .u8 t333, .int .i64 t334, .int .i64 (wrap64 (t335 + 1)), .int .i64 t336, .int .i64 t337, .int .u8 1] 28 (0, 0))) := ⟨(by rw [hw]; exact (by (with_reducible repeat (first | refine kN ?_ _ | refine kD ?_ | refine kA ?_ _)); refine kR ?_ NB341_323.out _; (with_reducible repeat (first | refine kN ?_ _ | refine kD ?_ | refine kA ?_ _)); refine kR ?_ NB341_323.out _; (with_reducible repeat (first | refine kN ?_ _ | refine kD ?_ | refine kA ?_ _)); refine kR ?_ NB341_323.out _; (with_reducible repeat (first | refine kN ?_ _ | refine kD ?_ | refine kA ?_ _)); refine kR ?_ NB341_323.out _; (with_reducible repeat (first | refine kN ?_ _ | refine kD ?_ | refine kA ?_ _)); refine kR ?_ NB341_323.out _; (with_reducible repeat (first | refine kN ?_ _ | refine kD ?_ | refine kA ?_ _)); refine kR ?_ NB341_323.out _; (with_reducible repeat (first | refine kN ?_ _ | refine kD ?_ | refine kA ?_ _)); refine kP (cs := #[.int .u8 t333, .int .i64 t334, .int .i64 t335, .int .i64 t336, .int .i64 t337, .int .u8 1]) ?_ 2 _ rfl; (with_reducible repeat (first | refine kN ?_ _ | refine kD ?_ | refine kA ?_ _)); refine kP (cs := #[.int .u8 t333, .int .i64 t334, .int .i64 t335, .int .i64 t336, .int .i64 t337, .int .u8 t338]) ?_ 5 _ rfl; (with_reducible repeat (first | refine kN ?_ _ | refine kD ?_ | refine kA ?_ _)); refine kP (cs := #[.int .u8 t333, .int .i64 t334, .int .i64 t335, .int .i64 t336, .int .i64 t337, .int .u8 0]) ?_ 5 _ rfl; (with_reducible repeat (first | refine kN ?_ _ | refine kD ?_ | refine kA ?_ _)); refine kP (cs := #[.int .u8 t333, .int .i64 t334, .int .i64 t335, .int .i64 t336, .int .i64 0, .int .u8 0]) ?_ 4 _ rfl; (with_reducible repeat (first | refine kN ?_ _ | refine kD ?_ | refine kA ?_ _)); refine kP (cs := #[.int .u8 t333, .int .i64 t334, .int .i64 t335, .int .i64 0, .int .i64 0, .int .u8 0]) ?_ 3 _ rfl; (with_reducible repeat (first | refine kN ?_ _ | refine kD ?_ | refine kA ?_ _)); refine kP (cs := #[.int .u8 t333, .int .i64 t334, .int .i64 0, .int .i64 0, .int .i64 0, .int .u8 0]) ?_ 2 _ rfl; (with_reducible repeat (first | refine kN ?_ _ | refine kD ?_ | refine kA ?_ _)); refine kP (cs := #[.int .u8 t333, .int .i64 0, .int .i64 0, .int .i64 0, .int .i64 0, .int .u8 0]) ?_ 1 _ rfl; (with_reducible repeat (first | refine kN ?_ _ | refine kD ?_ | refine kA ?_ _)); refine kP (cs := #[.int .u8 0, .int .i64 0, .int .i64 0, .int .i64 0, .int .i64 0, .int .u8 0]) ?_ 0 _ rfl; (with_reducible repeat (first | refine kN ?_ _ | refine kD ?_ | refine kA ?_ _)); exact BK341.out))⟩; have n4_ : Aside0 (Below w.heap.size w w47) := ⟨(by rw [hw]; exact (by repeat (first | (with_reducible first | exact HB.out | apply kL | apply kM | apply kE | refine kS ?_ GE323.out | refine kS ?_ GE332.out | refine kS ?_ GE340.out | refine kS ?_ GE341.out) | exact HB.out)))⟩; clear hw; clear BK323; clear BK332; clear BK340; clear BK341; clear HB; have BK323 := n0_; have BK332 := n1_; have BK340 := n2_; have BK341 := n3_; have HB := n4_; clear n0_ n1_ n2_ n3_ n4_))
       go_meet
       case rel => exact ⟨_, (t333), (t334), (wrap64 (t335 + 1)), (t336), (t337), (1), H', ⟨by have := HJ9.out; first | omega | exact Nat.le_refl _⟩, ⟨by (with_reducible repeat (first | refine kN ?_ _ | refine kD ?_ | refine kA ?_ _)); exact BK323.out⟩, ⟨by (with_reducible repeat (first | refine kN ?_ _ | refine kD ?_ | refine kA ?_ _)); exact BK332.out⟩, ⟨by (with_reducible repeat (first | refine kN ?_ _ | refine kD ?_ | refine kA ?_ _)); exact BK340.out⟩, ⟨by repeat (first | (with_reducible first | exact HB.out | apply kL | apply kM | apply kE | refine kS ?_ GE323.out | refine kS ?_ GE332.out | refine kS ?_ GE340.out | refine kS ?_ GE341.out) | exact HB.out)⟩⟩
      ·rw [if_neg c36] at H
       have c36b0 : ((Int.tmod a4 6) == 1) = false := beq_eq_false_iff_ne.mpr c36
       have c36b1 : ((Int.tmod a4 6) != 1) = true := bne_iff_ne.mpr c36
       by_cases c48 : (Int.tmod a4 6) = 2
       ·rw [if_pos c48] at H
        have c48b0 : ((Int.tmod a4 6) == 2) = true := beq_iff_eq.mpr c48
        have c48b1 : ((Int.tmod a4 6) != 2) = false := bne_eq_false_iff_eq.mpr c48
        clear c48
        have H' := Aside0.mk H
        clear H
        have hnb49 := NB340_323.out
        have hnc49 := NB323_340.out
        have hnb50 := NB340_332.out
        have hnc50 := NB332_340.out
        have hcz51_0 : wc.cell? ⟨gb340, 0, none⟩ = some (.int .u8 t333) := (kC BK340.out 0).trans rfl
        have hcz51_1 : wc.cell? ⟨gb340, 1, none⟩ = some (.int .i64 t334) := (kC BK340.out 1).trans rfl
        have hcz51_2 : wc.cell? ⟨gb340, 2, none⟩ = some (.int .i64 t335) := (kC BK340.out 2).trans rfl
        have hcz51_3 : wc.cell? ⟨gb340, 3, none⟩ = some (.int .i64 t336) := (kC BK340.out 3).trans rfl
        have hcz51_4 : wc.cell? ⟨gb340, 4, none⟩ = some (.int .i64 t337) := (kC BK340.out 4).trans rfl
        have hcz51_5 : wc.cell? ⟨gb340, 5, none⟩ = some (.int .u8 t338) := (kC BK340.out 5).trans rfl
        have hfz51_0 := kF BK340.out 0
        have hfz51_1 := kF BK340.out 1
        have hfz51_2 := kF BK340.out 2
        have hfz51_3 := kF BK340.out 3
        have hfz51_4 := kF BK340.out 4
        have hfz51_5 := kF BK340.out 5
        go_wp2_with (first | ((with_reducible refine gate_dst (N := 18) rfl ?_); refine box_event ?hg (N := 18) ?hd (cs := #[.int .u8 0, .int .i64 0, .int .i64 0, .int .i64 0, .int .i64 0, .int .u8 0]) (t := 28) ?hr ?_; (case hd => rfl); (case hg => rfl); (case hr => first | (go_simp; done) | (go_simp; rfl)); intro gb341 hg w52 hbox hb; have n0_ := Aside0.mk (blk_below (g := gb323) (o := .cells #[.int .u8 a3_0, .int .i64 a3_1, .int .i64 a3_2, .int .i64 a3_3, .int .i64 a3_4, .int .u8 a3_5] 28 (0, 0)) (by (with_reducible repeat (first | refine kN ?_ _ | refine kD ?_ | refine kA ?_ _)); exact BK323.out) hb); have n1_ := Aside0.mk (blk_below (g := gb332) (o := .cells #[.int .i64 t324, .int .i64 t325, .int .u8 t326, .int .i64 t327, .int .i64 t328, .int .i64 t329, .int .i64 t330, .bool t331] 25 (0, 0)) (by (with_reducible repeat (first | refine kN ?_ _ | refine kD ?_ | refine kA ?_ _)); exact BK332.out) hb); have n2_ := Aside0.mk (blk_below (g := gb340) (o := .cells #[.int .u8 t333, .int .i64 t334, .int .i64 t335, .int .i64 t336, .int .i64 t337, .int .u8 t338] 28 (0, 0)) (by (with_reducible repeat (first | refine kN ?_ _ | refine kD ?_ | refine kA ?_ _)); exact BK340.out) hb); have n3_ := Aside0.mk (below_step (by repeat (first | (with_reducible first | exact HB.out | apply kL | apply kM | apply kE | refine kS ?_ GE323.out | refine kS ?_ GE332.out | refine kS ?_ GE340.out) | exact HB.out)) hb); have n4_ := Aside0.mk (hbox); have n5_ := Aside0.mk ((by rw [hg]; exact (below_size (by repeat (first | (with_reducible first | exact HB.out | apply kL | apply kM | apply kE | refine kS ?_ GE323.out | refine kS ?_ GE332.out | refine kS ?_ GE340.out) | exact HB.out))) : w.heap.size ≤ gb341)); have n6_ := Aside0.mk ((by rw [hg]; exact (below_size (by repeat (first | (with_reducible first | exact HB.out | apply kL | apply kM | apply kE | refine kS ?_ GE323.out | refine kS ?_ GE332.out | refine kS ?_ GE340.out) | exact HB.out))) : w.heap.size ≤ gb341)); have n7_ := Aside0.mk ((by rw [hg]; exact Nat.ne_of_lt (blk_lt (g := gb323) (o := .cells #[.int .u8 a3_0, .int .i64 a3_1, .int .i64 a3_2, .int .i64 a3_3, .int .i64 a3_4, .int .u8 a3_5] 28 (0, 0)) (by (with_reducible repeat (first | refine kN ?_ _ | refine kD ?_ | refine kA ?_ _)); exact BK323.out)) : gb323 ≠ gb341)); have n8_ := Aside0.mk ((by rw [hg]; exact Nat.ne_of_gt (blk_lt (g := gb323) (o := .cells #[.int .u8 a3_0, .int .i64 a3_1, .int .i64 a3_2, .int .i64 a3_3, .int .i64 a3_4, .int .u8 a3_5] 28 (0, 0)) (by (with_reducible repeat (first | refine kN ?_ _ | refine kD ?_ | refine kA ?_ _)); exact BK323.out)) : gb341 ≠ gb323)); have n9_ := Aside0.mk ((by rw [hg]; exact Nat.ne_of_lt (blk_lt (g := gb332) (o := .cells #[.int .i64 t324, .int .i64 t325, .int .u8 t326, .int .i64 t327, .int .i64 t328, .int .i64 t329, .int .i64 t330, .bool t331] 25 (0, 0)) (by (with_reducible repeat (first | refine kN ?_ _ | refine kD ?_ | refine kA ?_ _)); exact BK332.out)) : gb332 ≠ gb341)); have n10_ := Aside0.mk ((by rw [hg]; exact Nat.ne_of_gt (blk_lt (g := gb332) (o := .cells #[.int .i64 t324, .int .i64 t325, .int .u8 t326, .int .i64 t327, .int .i64 t328, .int .i64 t329, .int .i64 t330, .bool t331] 25 (0, 0)) (by (with_reducible repeat (first | refine kN ?_ _ | refine kD ?_ | refine kA ?_ _)); exact BK332.out)) : gb341 ≠ gb332)); have n11_ := Aside0.mk ((by rw [hg]; exact Nat.ne_of_lt (blk_lt (g := gb340) (o := .cells #[.int .u8 t333, .int .i64 t334, .int .i64 t335, .int .i64 t336, .int .i64 t337, .int .u8 t338] 28 (0, 0)) (by (with_reducible repeat (first | refine kN ?_ _ | refine kD ?_ | refine kA ?_ _)); exact BK340.out)) : gb340 ≠ gb341)); have n12_ := Aside0.mk ((by rw [hg]; exact Nat.ne_of_gt (blk_lt (g := gb340) (o := .cells #[.int .u8 t333, .int .i64 t334, .int .i64 t335, .int .i64 t336, .int .i64 t337, .int .u8 t338] 28 (0, 0)) (by (with_reducible repeat (first | refine kN ?_ _ | refine kD ?_ | refine kA ?_ _)); exact BK340.out)) : gb341 ≠ gb340)); clear BK323; clear BK332; clear BK340; clear HB; have BK323 := n0_; have BK332 := n1_; have BK340 := n2_; have HB := n3_; have BK341 := n4_; have GW341 := n5_; have GE341 := n6_; have NB323_341 := n7_; have NB341_323 := n8_; have NB332_341 := n9_; have NB341_332 := n10_; have NB340_341 := n11_; have NB341_340 := n12_; clear n0_ n1_ n2_ n3_ n4_ n5_ n6_ n7_ n8_ n9_ n10_ n11_ n12_; clear hb hbox hg; have hnb53 := NB341_323.out; have hnc53 := NB323_341.out; have hnb54 := NB341_332.out; have hnc54 := NB332_341.out; have hnb55 := NB341_340.out; have hnc55 := NB340_341.out; have hcz56_0 : w52.cell? ⟨gb341, 0, none⟩ = some (.int .u8 0) := (kC BK341.out 0).trans rfl; have hcz56_1 : w52.cell? ⟨gb341, 1, none⟩ = some (.int .i64 0) := (kC BK341.out 1).trans rfl; have hcz56_2 : w52.cell? ⟨gb341, 2, none⟩ = some (.int .i64 0) := (kC BK341.out 2).trans rfl; have hcz56_3 : w52.cell? ⟨gb341, 3, none⟩ = some (.int .i64 0) := (kC BK341.out 3).trans rfl; have hcz56_4 : w52.cell? ⟨gb341, 4, none⟩ = some (.int .i64 0) := (kC BK341.out 4).trans rfl; have hcz56_5 : w52.cell? ⟨gb341, 5, none⟩ = some (.int .u8 0) := (kC BK341.out 5).trans rfl; have hfz56_0 := kF BK341.out 0; have hfz56_1 := kF BK341.out 1; have hfz56_2 := kF BK341.out 2; have hfz56_3 := kF BK341.out 3; have hfz56_4 := kF BK341.out 4; have hfz56_5 := kF BK341.out 5; have hnb57 := NB323_332.out; have hnc57 := NB332_323.out; have hcz58_0 : w52.cell? ⟨gb323, 0, none⟩ = some (.int .u8 a3_0) := (kC BK323.out 0).trans rfl; have hcz58_1 : w52.cell? ⟨gb323, 1, none⟩ = some (.int .i64 a3_1) := (kC BK323.out 1).trans rfl; have hcz58_2 : w52.cell? ⟨gb323, 2, none⟩ = some (.int .i64 a3_2) := (kC BK323.out 2).trans rfl; have hcz58_3 : w52.cell? ⟨gb323, 3, none⟩ = some (.int .i64 a3_3) := (kC BK323.out 3).trans rfl; have hcz58_4 : w52.cell? ⟨gb323, 4, none⟩ = some (.int .i64 a3_4) := (kC BK323.out 4).trans rfl; have hcz58_5 : w52.cell? ⟨gb323, 5, none⟩ = some (.int .u8 a3_5) := (kC BK323.out 5).trans rfl; have hfz58_0 := kF BK323.out 0; have hfz58_1 := kF BK323.out 1; have hfz58_2 := kF BK323.out 2; have hfz58_3 := kF BK323.out 3; have hfz58_4 := kF BK323.out 4; have hfz58_5 := kF BK323.out 5) | ((with_reducible refine gate_dst (N := 71) rfl ?_); refine wpList_load_row rfl 28 (.tmp 18) rfl gb341 rfl 28 #[.int .u8 t333, .int .i64 t334, .int .i64 t335, .int .i64 (wrap64 (t336 + 1)), .int .i64 t337, .int .u8 1] (0, 0) _ (by (with_reducible repeat (first | refine kN ?_ _ | refine kD ?_ | refine kA ?_ _)); refine kP (cs := #[.int .u8 t333, .int .i64 t334, .int .i64 t335, .int .i64 t336, .int .i64 t337, .int .u8 1]) ?_ 3 _ rfl; (with_reducible repeat (first | refine kN ?_ _ | refine kD ?_ | refine kA ?_ _)); refine kP (cs := #[.int .u8 t333, .int .i64 t334, .int .i64 t335, .int .i64 t336, .int .i64 t337, .int .u8 t338]) ?_ 5 _ rfl; (with_reducible repeat (first | refine kN ?_ _ | refine kD ?_ | refine kA ?_ _)); refine kP (cs := #[.int .u8 t333, .int .i64 t334, .int .i64 t335, .int .i64 t336, .int .i64 t337, .int .u8 0]) ?_ 5 _ rfl; (with_reducible repeat (first | refine kN ?_ _ | refine kD ?_ | refine kA ?_ _)); refine kP (cs := #[.int .u8 t333, .int .i64 t334, .int .i64 t335, .int .i64 t336, .int .i64 0, .int .u8 0]) ?_ 4 _ rfl; (with_reducible repeat (first | refine kN ?_ _ | refine kD ?_ | refine kA ?_ _)); refine kP (cs := #[.int .u8 t333, .int .i64 t334, .int .i64 t335, .int .i64 0, .int .i64 0, .int .u8 0]) ?_ 3 _ rfl; (with_reducible repeat (first | refine kN ?_ _ | refine kD ?_ | refine kA ?_ _)); refine kP (cs := #[.int .u8 t333, .int .i64 t334, .int .i64 0, .int .i64 0, .int .i64 0, .int .u8 0]) ?_ 2 _ rfl; (with_reducible repeat (first | refine kN ?_ _ | refine kD ?_ | refine kA ?_ _)); refine kP (cs := #[.int .u8 t333, .int .i64 0, .int .i64 0, .int .i64 0, .int .i64 0, .int .u8 0]) ?_ 1 _ rfl; (with_reducible repeat (first | refine kN ?_ _ | refine kD ?_ | refine kA ?_ _)); refine kP (cs := #[.int .u8 0, .int .i64 0, .int .i64 0, .int .i64 0, .int .i64 0, .int .u8 0]) ?_ 0 _ rfl; (with_reducible repeat (first | refine kN ?_ _ | refine kD ?_ | refine kA ?_ _)); exact BK341.out) Tryd.underlying28 rfl (by kernel_rfl) ?_) | ((with_reducible refine gate_store (t := 28) (p := 10) rfl ?_); refine store_event (t := 28) (p := 10) (v := ?vo_w59) (w1 := ((((((((((((((w52.setCell ⟨gb341, 0, none⟩ (.int .u8 t333)).setCell ⟨gb341, 1, none⟩ (.int .i64 t334)).setCell ⟨gb341, 2, none⟩ (.int .i64 t335)).setCell ⟨gb341, 3, none⟩ (.int .i64 t336)).setCell ⟨gb341, 4, none⟩ (.int .i64 t337)).setCell ⟨gb341, 5, none⟩ (.int .u8 t338)).setCell ⟨gb341, 5, none⟩ (.int .u8 1)).setCell ⟨gb341, 3, none⟩ (.int .i64 (wrap64 (t336 + 1)))).setCell ⟨gb323, 0, none⟩ (.int .u8 t333)).setCell ⟨gb323, 1, none⟩ (.int .i64 t334)).setCell ⟨gb323, 2, none⟩ (.int .i64 t335)).setCell ⟨gb323, 3, none⟩ (.int .i64 (wrap64 (t336 + 1)))).setCell ⟨gb323, 4, none⟩ (.int .i64 t337)).setCell ⟨gb323, 5, none⟩ (.int .u8 1))) ?hg ?ho ?hn ?hr ?_; (case ho => rfl); (case hg => rfl); (case hn => rfl); (case hr => first | (go_simp; done) | (go_simp; rfl)); intro w59 hw; have n0_ : Aside0 (w59.heap[gb323]? = some (.cells #[.int .u8 t333, .int .i64 t334, .int .i64 t335, .int .i64 (wrap64 (t336 + 1)), .int .i64 t337, .int .u8 1] 28 (0, 0))) := ⟨(by rw [hw]; exact (by (with_reducible repeat (first | refine kN ?_ _ | refine kD ?_ | refine kA ?_ _)); refine kP (cs := #[.int .u8 t333, .int .i64 t334, .int .i64 t335, .int .i64 (wrap64 (t336 + 1)), .int .i64 t337, .int .u8 a3_5]) ?_ 5 _ rfl; (with_reducible repeat (first | refine kN ?_ _ | refine kD ?_ | refine kA ?_ _)); refine kP (cs := #[.int .u8 t333, .int .i64 t334, .int .i64 t335, .int .i64 (wrap64 (t336 + 1)), .int .i64 a3_4, .int .u8 a3_5]) ?_ 4 _ rfl; (with_reducible repeat (first | refine kN ?_ _ | refine kD ?_ | refine kA ?_ _)); refine kP (cs := #[.int .u8 t333, .int .i64 t334, .int .i64 t335, .int .i64 a3_3, .int .i64 a3_4, .int .u8 a3_5]) ?_ 3 _ rfl; (with_reducible repeat (first | refine kN ?_ _ | refine kD ?_ | refine kA ?_ _)); refine kP (cs := #[.int .u8 t333, .int .i64 t334, .int .i64 a3_2, .int .i64 a3_3, .int .i64 a3_4, .int .u8 a3_5]) ?_ 2 _ rfl; (with_reducible repeat (first | refine kN ?_ _ | refine kD ?_ | refine kA ?_ _)); refine kP (cs := #[.int .u8 t333, .int .i64 a3_1, .int .i64 a3_2, .int .i64 a3_3, .int .i64 a3_4, .int .u8 a3_5]) ?_ 1 _ rfl; (with_reducible repeat (first | refine kN ?_ _ | refine kD ?_ | refine kA ?_ _)); refine kP (cs := #[.int .u8 a3_0, .int .i64 a3_1, .int .i64 a3_2, .int .i64 a3_3, .int .i64 a3_4, .int .u8 a3_5]) ?_ 0 _ rfl; (with_reducible repeat (first | refine kN ?_ _ | refine kD ?_ | refine kA ?_ _)); refine kR ?_ NB323_341.out _; (with_reducible repeat (first | refine kN ?_ _ | refine kD ?_ | refine kA ?_ _)); refine kR ?_ NB323_341.out _; (with_reducible repeat (first | refine kN ?_ _ | refine kD ?_ | refine kA ?_ _)); refine kR ?_ NB323_341.out _; (with_reducible repeat (first | refine kN ?_ _ | refine kD ?_ | refine kA ?_ _)); refine kR ?_ NB323_341.out _; (with_reducible repeat (first | refine kN ?_ _ | refine kD ?_ | refine kA ?_ _)); refine kR ?_ NB323_341.out _; (with_reducible repeat (first | refine kN ?_ _ | refine kD ?_ | refine kA ?_ _)); refine kR ?_ NB323_341.out _; (with_reducible repeat (first | refine kN ?_ _ | refine kD ?_ | refine kA ?_ _)); refine kR ?_ NB323_341.out _; (with_reducible repeat (first | refine kN ?_ _ | refine kD ?_ | refine kA ?_ _)); refine kR ?_ NB323_341.out _; (with_reducible repeat (first | refine kN ?_ _ | refine kD ?_ | refine kA ?_ _)); exact BK323.out))⟩; have n1_ : Aside0 (w59.heap[gb332]? = some (.cells #[.int .i64 t324, .int .i64 t325, .int .u8 t326, .int .i64 t327, .int .i64 t328, .int .i64 t329, .int .i64 t330, .bool t331] 25 (0, 0))) := ⟨(by rw [hw]; exact (by (with_reducible repeat (first | refine kN ?_ _ | refine kD ?_ | refine kA ?_ _)); refine kR ?_ NB332_323.out _; (with_reducible repeat (first | refine kN ?_ _ | refine kD ?_ | refine kA ?_ _)); refine kR ?_ NB332_323.out _; (with_reducible repeat (first | refine kN ?_ _ | refine kD ?_ | refine kA ?_ _)); refine kR ?_ NB332_323.out _; (with_reducible repeat (first | refine kN ?_ _ | refine kD ?_ | refine kA ?_ _)); refine kR ?_ NB332_323.out _; (with_reducible repeat (first | refine kN ?_ _ | refine kD ?_ | refine kA ?_ _)); refine kR ?_ NB332_323.out _; (with_reducible repeat (first | refine kN ?_ _ | refine kD ?_ | refine kA ?_ _)); refine kR ?_ NB332_323.out _; (with_reducible repeat (first | refine kN ?_ _ | refine kD ?_ | refine kA ?_ _)); refine kR ?_ NB332_341.out _; (with_reducible repeat (first | refine kN ?_ _ | refine kD ?_ | refine kA ?_ _)); refine kR ?_ NB332_341.out _; (with_reducible repeat (first | refine kN ?_ _ | refine kD ?_ | refine kA ?_ _)); refine kR ?_ NB332_341.out _; (with_reducible repeat (first | refine kN ?_ _ | refine kD ?_ | refine kA ?_ _)); refine kR ?_ NB332_341.out _; (with_reducible repeat (first | refine kN ?_ _ | refine kD ?_ | refine kA ?_ _)); refine kR ?_ NB332_341.out _; (with_reducible repeat (first | refine kN ?_ _ | refine kD ?_ | refine kA ?_ _)); refine kR ?_ NB332_341.out _; (with_reducible repeat (first | refine kN ?_ _ | refine kD ?_ | refine kA ?_ _)); refine kR ?_ NB332_341.out _; (with_reducible repeat (first | refine kN ?_ _ | refine kD ?_ | refine kA ?_ _)); refine kR ?_ NB332_341.out _; (with_reducible repeat (first | refine kN ?_ _ | refine kD ?_ | refine kA ?_ _)); exact BK332.out))⟩; have n2_ : Aside0 (w59.heap[gb340]? = some (.cells #[.int .u8 t333, .int .i64 t334, .int .i64 t335, .int .i64 t336, .int .i64 t337, .int .u8 t338] 28 (0, 0))) := ⟨(by rw [hw]; exact (by (with_reducible repeat (first | refine kN ?_ _ | refine kD ?_ | refine kA ?_ _)); refine kR ?_ NB340_323.out _; (with_reducible repeat (first | refine kN ?_ _ | refine kD ?_ | refine kA ?_ _)); refine kR ?_ NB340_323.out _; (with_reducible repeat (first | refine kN ?_ _ | refine kD ?_ | refine kA ?_ _)); refine kR ?_ NB340_323.out _; (with_reducible repeat (first | refine kN ?_ _ | refine kD ?_ | refine kA ?_ _)); refine kR ?_ NB340_323.out _; (with_reducible repeat (first | refine kN ?_ _ | refine kD ?_ | refine kA ?_ _)); refine kR ?_ NB340_323.out _; (with_reducible repeat (first | refine kN ?_ _ | refine kD ?_ | refine kA ?_ _)); refine kR ?_ NB340_323.out _; (with_reducible repeat (first | refine kN ?_ _ | refine kD ?_ | refine kA ?_ _)); refine kR ?_ NB340_341.out _; (with_reducible repeat (first | refine kN ?_ _ | refine kD ?_ | refine kA ?_ _)); refine kR ?_ NB340_341.out _; (with_reducible repeat (first | refine kN ?_ _ | refine kD ?_ | refine kA ?_ _)); refine kR ?_ NB340_341.out _; (with_reducible repeat (first | refine kN ?_ _ | refine kD ?_ | refine kA ?_ _)); refine kR ?_ NB340_341.out _; (with_reducible repeat (first | refine kN ?_ _ | refine kD ?_ | refine kA ?_ _)); refine kR ?_ NB340_341.out _; (with_reducible repeat (first | refine kN ?_ _ | refine kD ?_ | refine kA ?_ _)); refine kR ?_ NB340_341.out _; (with_reducible repeat (first | refine kN ?_ _ | refine kD ?_ | refine kA ?_ _)); refine kR ?_ NB340_341.out _; (with_reducible repeat (first | refine kN ?_ _ | refine kD ?_ | refine kA ?_ _)); refine kR ?_ NB340_341.out _; (with_reducible repeat (first | refine kN ?_ _ | refine kD ?_ | refine kA ?_ _)); exact BK340.out))⟩; have n3_ : Aside0 (w59.heap[gb341]? = some (.cells #[.int .u8 t333, .int .i64 t334, .int .i64 t335, .int .i64 (wrap64 (t336 + 1)), .int .i64 t337, .int .u8 1] 28 (0, 0))) := ⟨(by rw [hw]; exact (by (with_reducible repeat (first | refine kN ?_ _ | refine kD ?_ | refine kA ?_ _)); refine kR ?_ NB341_323.out _; (with_reducible repeat (first | refine kN ?_ _ | refine kD ?_ | refine kA ?_ _)); refine kR ?_ NB341_323.out _; (with_reducible repeat (first | refine kN ?_ _ | refine kD ?_ | refine kA ?_ _)); refine kR ?_ NB341_323.out _; (with_reducible repeat (first | refine kN ?_ _ | refine kD ?_ | refine kA ?_ _)); refine kR ?_ NB341_323.out _; (with_reducible repeat (first | refine kN ?_ _ | refine kD ?_ | refine kA ?_ _)); refine kR ?_ NB341_323.out _; (with_reducible repeat (first | refine kN ?_ _ | refine kD ?_ | refine kA ?_ _)); refine kR ?_ NB341_323.out _; (with_reducible repeat (first | refine kN ?_ _ | refine kD ?_ | refine kA ?_ _)); refine kP (cs := #[.int .u8 t333, .int .i64 t334, .int .i64 t335, .int .i64 t336, .int .i64 t337, .int .u8 1]) ?_ 3 _ rfl; (with_reducible repeat (first | refine kN ?_ _ | refine kD ?_ | refine kA ?_ _)); refine kP (cs := #[.int .u8 t333, .int .i64 t334, .int .i64 t335, .int .i64 t336, .int .i64 t337, .int .u8 t338]) ?_ 5 _ rfl; (with_reducible repeat (first | refine kN ?_ _ | refine kD ?_ | refine kA ?_ _)); refine kP (cs := #[.int .u8 t333, .int .i64 t334, .int .i64 t335, .int .i64 t336, .int .i64 t337, .int .u8 0]) ?_ 5 _ rfl; (with_reducible repeat (first | refine kN ?_ _ | refine kD ?_ | refine kA ?_ _)); refine kP (cs := #[.int .u8 t333, .int .i64 t334, .int .i64 t335, .int .i64 t336, .int .i64 0, .int .u8 0]) ?_ 4 _ rfl; (with_reducible repeat (first | refine kN ?_ _ | refine kD ?_ | refine kA ?_ _)); refine kP (cs := #[.int .u8 t333, .int .i64 t334, .int .i64 t335, .int .i64 0, .int .i64 0, .int .u8 0]) ?_ 3 _ rfl; (with_reducible repeat (first | refine kN ?_ _ | refine kD ?_ | refine kA ?_ _)); refine kP (cs := #[.int .u8 t333, .int .i64 t334, .int .i64 0, .int .i64 0, .int .i64 0, .int .u8 0]) ?_ 2 _ rfl; (with_reducible repeat (first | refine kN ?_ _ | refine kD ?_ | refine kA ?_ _)); refine kP (cs := #[.int .u8 t333, .int .i64 0, .int .i64 0, .int .i64 0, .int .i64 0, .int .u8 0]) ?_ 1 _ rfl; (with_reducible repeat (first | refine kN ?_ _ | refine kD ?_ | refine kA ?_ _)); refine kP (cs := #[.int .u8 0, .int .i64 0, .int .i64 0, .int .i64 0, .int .i64 0, .int .u8 0]) ?_ 0 _ rfl; (with_reducible repeat (first | refine kN ?_ _ | refine kD ?_ | refine kA ?_ _)); exact BK341.out))⟩; have n4_ : Aside0 (Below w.heap.size w w59) := ⟨(by rw [hw]; exact (by repeat (first | (with_reducible first | exact HB.out | apply kL | apply kM | apply kE | refine kS ?_ GE323.out | refine kS ?_ GE332.out | refine kS ?_ GE340.out | refine kS ?_ GE341.out) | exact HB.out)))⟩; clear hw; clear BK323; clear BK332; clear BK340; clear BK341; clear HB; have BK323 := n0_; have BK332 := n1_; have BK340 := n2_; have BK341 := n3_; have HB := n4_; clear n0_ n1_ n2_ n3_ n4_))
        go_meet
        case rel => exact ⟨_, (t333), (t334), (t335), (wrap64 (t336 + 1)), (t337), (1), H', ⟨by have := HJ9.out; first | omega | exact Nat.le_refl _⟩, ⟨by (with_reducible repeat (first | refine kN ?_ _ | refine kD ?_ | refine kA ?_ _)); exact BK323.out⟩, ⟨by (with_reducible repeat (first | refine kN ?_ _ | refine kD ?_ | refine kA ?_ _)); exact BK332.out⟩, ⟨by (with_reducible repeat (first | refine kN ?_ _ | refine kD ?_ | refine kA ?_ _)); exact BK340.out⟩, ⟨by repeat (first | (with_reducible first | exact HB.out | apply kL | apply kM | apply kE | refine kS ?_ GE323.out | refine kS ?_ GE332.out | refine kS ?_ GE340.out | refine kS ?_ GE341.out) | exact HB.out)⟩⟩
       ·rw [if_neg c48] at H
        have c48b0 : ((Int.tmod a4 6) == 2) = false := beq_eq_false_iff_ne.mpr c48
        have c48b1 : ((Int.tmod a4 6) != 2) = true := bne_iff_ne.mpr c48
        by_cases c60 : (Int.tmod a4 6) = 3
        ·rw [if_pos c60] at H
         have c60b0 : ((Int.tmod a4 6) == 3) = true := beq_iff_eq.mpr c60
         have c60b1 : ((Int.tmod a4 6) != 3) = false := bne_eq_false_iff_eq.mpr c60
         clear c60
         have H' := Aside0.mk H
         clear H
         have hnb61 := NB340_323.out
         have hnc61 := NB323_340.out
         have hnb62 := NB340_332.out
         have hnc62 := NB332_340.out
         have hcz63_0 : wc.cell? ⟨gb340, 0, none⟩ = some (.int .u8 t333) := (kC BK340.out 0).trans rfl
         have hcz63_1 : wc.cell? ⟨gb340, 1, none⟩ = some (.int .i64 t334) := (kC BK340.out 1).trans rfl
         have hcz63_2 : wc.cell? ⟨gb340, 2, none⟩ = some (.int .i64 t335) := (kC BK340.out 2).trans rfl
         have hcz63_3 : wc.cell? ⟨gb340, 3, none⟩ = some (.int .i64 t336) := (kC BK340.out 3).trans rfl
         have hcz63_4 : wc.cell? ⟨gb340, 4, none⟩ = some (.int .i64 t337) := (kC BK340.out 4).trans rfl
         have hcz63_5 : wc.cell? ⟨gb340, 5, none⟩ = some (.int .u8 t338) := (kC BK340.out 5).trans rfl
         have hfz63_0 := kF BK340.out 0
         have hfz63_1 := kF BK340.out 1
         have hfz63_2 := kF BK340.out 2
         have hfz63_3 := kF BK340.out 3
         have hfz63_4 := kF BK340.out 4
         have hfz63_5 := kF BK340.out 5
         go_wp2_with (first | ((with_reducible refine gate_dst (N := 18) rfl ?_); refine box_event ?hg (N := 18) ?hd (cs := #[.int .u8 0, .int .i64 0, .int .i64 0, .int .i64 0, .int .i64 0, .int .u8 0]) (t := 28) ?hr ?_; (case hd => rfl); (case hg => rfl); (case hr => first | (go_simp; done) | (go_simp; rfl)); intro gb341 hg w64 hbox hb; have n0_ := Aside0.mk (blk_below (g := gb323) (o := .cells #[.int .u8 a3_0, .int .i64 a3_1, .int .i64 a3_2, .int .i64 a3_3, .int .i64 a3_4, .int .u8 a3_5] 28 (0, 0)) (by (with_reducible repeat (first | refine kN ?_ _ | refine kD ?_ | refine kA ?_ _)); exact BK323.out) hb); have n1_ := Aside0.mk (blk_below (g := gb332) (o := .cells #[.int .i64 t324, .int .i64 t325, .int .u8 t326, .int .i64 t327, .int .i64 t328, .int .i64 t329, .int .i64 t330, .bool t331] 25 (0, 0)) (by (with_reducible repeat (first | refine kN ?_ _ | refine kD ?_ | refine kA ?_ _)); exact BK332.out) hb); have n2_ := Aside0.mk (blk_below (g := gb340) (o := .cells #[.int .u8 t333, .int .i64 t334, .int .i64 t335, .int .i64 t336, .int .i64 t337, .int .u8 t338] 28 (0, 0)) (by (with_reducible repeat (first | refine kN ?_ _ | refine kD ?_ | refine kA ?_ _)); exact BK340.out) hb); have n3_ := Aside0.mk (below_step (by repeat (first | (with_reducible first | exact HB.out | apply kL | apply kM | apply kE | refine kS ?_ GE323.out | refine kS ?_ GE332.out | refine kS ?_ GE340.out) | exact HB.out)) hb); have n4_ := Aside0.mk (hbox); have n5_ := Aside0.mk ((by rw [hg]; exact (below_size (by repeat (first | (with_reducible first | exact HB.out | apply kL | apply kM | apply kE | refine kS ?_ GE323.out | refine kS ?_ GE332.out | refine kS ?_ GE340.out) | exact HB.out))) : w.heap.size ≤ gb341)); have n6_ := Aside0.mk ((by rw [hg]; exact (below_size (by repeat (first | (with_reducible first | exact HB.out | apply kL | apply kM | apply kE | refine kS ?_ GE323.out | refine kS ?_ GE332.out | refine kS ?_ GE340.out) | exact HB.out))) : w.heap.size ≤ gb341)); have n7_ := Aside0.mk ((by rw [hg]; exact Nat.ne_of_lt (blk_lt (g := gb323) (o := .cells #[.int .u8 a3_0, .int .i64 a3_1, .int .i64 a3_2, .int .i64 a3_3, .int .i64 a3_4, .int .u8 a3_5] 28 (0, 0)) (by (with_reducible repeat (first | refine kN ?_ _ | refine kD ?_ | refine kA ?_ _)); exact BK323.out)) : gb323 ≠ gb341)); have n8_ := Aside0.mk ((by rw [hg]; exact Nat.ne_of_gt (blk_lt (g := gb323) (o := .cells #[.int .u8 a3_0, .int .i64 a3_1, .int .i64 a3_2, .int .i64 a3_3, .int .i64 a3_4, .int .u8 a3_5] 28 (0, 0)) (by (with_reducible repeat (first | refine kN ?_ _ | refine kD ?_ | refine kA ?_ _)); exact BK323.out)) : gb341 ≠ gb323)); have n9_ := Aside0.mk ((by rw [hg]; exact Nat.ne_of_lt (blk_lt (g := gb332) (o := .cells #[.int .i64 t324, .int .i64 t325, .int .u8 t326, .int .i64 t327, .int .i64 t328, .int .i64 t329, .int .i64 t330, .bool t331] 25 (0, 0)) (by (with_reducible repeat (first | refine kN ?_ _ | refine kD ?_ | refine kA ?_ _)); exact BK332.out)) : gb332 ≠ gb341)); have n10_ := Aside0.mk ((by rw [hg]; exact Nat.ne_of_gt (blk_lt (g := gb332) (o := .cells #[.int .i64 t324, .int .i64 t325, .int .u8 t326, .int .i64 t327, .int .i64 t328, .int .i64 t329, .int .i64 t330, .bool t331] 25 (0, 0)) (by (with_reducible repeat (first | refine kN ?_ _ | refine kD ?_ | refine kA ?_ _)); exact BK332.out)) : gb341 ≠ gb332)); have n11_ := Aside0.mk ((by rw [hg]; exact Nat.ne_of_lt (blk_lt (g := gb340) (o := .cells #[.int .u8 t333, .int .i64 t334, .int .i64 t335, .int .i64 t336, .int .i64 t337, .int .u8 t338] 28 (0, 0)) (by (with_reducible repeat (first | refine kN ?_ _ | refine kD ?_ | refine kA ?_ _)); exact BK340.out)) : gb340 ≠ gb341)); have n12_ := Aside0.mk ((by rw [hg]; exact Nat.ne_of_gt (blk_lt (g := gb340) (o := .cells #[.int .u8 t333, .int .i64 t334, .int .i64 t335, .int .i64 t336, .int .i64 t337, .int .u8 t338] 28 (0, 0)) (by (with_reducible repeat (first | refine kN ?_ _ | refine kD ?_ | refine kA ?_ _)); exact BK340.out)) : gb341 ≠ gb340)); clear BK323; clear BK332; clear BK340; clear HB; have BK323 := n0_; have BK332 := n1_; have BK340 := n2_; have HB := n3_; have BK341 := n4_; have GW341 := n5_; have GE341 := n6_; have NB323_341 := n7_; have NB341_323 := n8_; have NB332_341 := n9_; have NB341_332 := n10_; have NB340_341 := n11_; have NB341_340 := n12_; clear n0_ n1_ n2_ n3_ n4_ n5_ n6_ n7_ n8_ n9_ n10_ n11_ n12_; clear hb hbox hg; have hnb65 := NB341_323.out; have hnc65 := NB323_341.out; have hnb66 := NB341_332.out; have hnc66 := NB332_341.out; have hnb67 := NB341_340.out; have hnc67 := NB340_341.out; have hcz68_0 : w64.cell? ⟨gb341, 0, none⟩ = some (.int .u8 0) := (kC BK341.out 0).trans rfl; have hcz68_1 : w64.cell? ⟨gb341, 1, none⟩ = some (.int .i64 0) := (kC BK341.out 1).trans rfl; have hcz68_2 : w64.cell? ⟨gb341, 2, none⟩ = some (.int .i64 0) := (kC BK341.out 2).trans rfl; have hcz68_3 : w64.cell? ⟨gb341, 3, none⟩ = some (.int .i64 0) := (kC BK341.out 3).trans rfl; have hcz68_4 : w64.cell? ⟨gb341, 4, none⟩ = some (.int .i64 0) := (kC BK341.out 4).trans rfl; have hcz68_5 : w64.cell? ⟨gb341, 5, none⟩ = some (.int .u8 0) := (kC BK341.out 5).trans rfl; have hfz68_0 := kF BK341.out 0; have hfz68_1 := kF BK341.out 1; have hfz68_2 := kF BK341.out 2; have hfz68_3 := kF BK341.out 3; have hfz68_4 := kF BK341.out 4; have hfz68_5 := kF BK341.out 5; have hnb69 := NB323_332.out; have hnc69 := NB332_323.out; have hcz70_0 : w64.cell? ⟨gb323, 0, none⟩ = some (.int .u8 a3_0) := (kC BK323.out 0).trans rfl; have hcz70_1 : w64.cell? ⟨gb323, 1, none⟩ = some (.int .i64 a3_1) := (kC BK323.out 1).trans rfl; have hcz70_2 : w64.cell? ⟨gb323, 2, none⟩ = some (.int .i64 a3_2) := (kC BK323.out 2).trans rfl; have hcz70_3 : w64.cell? ⟨gb323, 3, none⟩ = some (.int .i64 a3_3) := (kC BK323.out 3).trans rfl; have hcz70_4 : w64.cell? ⟨gb323, 4, none⟩ = some (.int .i64 a3_4) := (kC BK323.out 4).trans rfl; have hcz70_5 : w64.cell? ⟨gb323, 5, none⟩ = some (.int .u8 a3_5) := (kC BK323.out 5).trans rfl; have hfz70_0 := kF BK323.out 0; have hfz70_1 := kF BK323.out 1; have hfz70_2 := kF BK323.out 2; have hfz70_3 := kF BK323.out 3; have hfz70_4 := kF BK323.out 4; have hfz70_5 := kF BK323.out 5) | ((with_reducible refine gate_dst (N := 71) rfl ?_); refine wpList_load_row rfl 28 (.tmp 18) rfl gb341 rfl 28 #[.int .u8 t333, .int .i64 t334, .int .i64 t335, .int .i64 t336, .int .i64 (wrap64 (t337 + 1)), .int .u8 1] (0, 0) _ (by (with_reducible repeat (first | refine kN ?_ _ | refine kD ?_ | refine kA ?_ _)); refine kP (cs := #[.int .u8 t333, .int .i64 t334, .int .i64 t335, .int .i64 t336, .int .i64 t337, .int .u8 1]) ?_ 4 _ rfl; (with_reducible repeat (first | refine kN ?_ _ | refine kD ?_ | refine kA ?_ _)); refine kP (cs := #[.int .u8 t333, .int .i64 t334, .int .i64 t335, .int .i64 t336, .int .i64 t337, .int .u8 t338]) ?_ 5 _ rfl; (with_reducible repeat (first | refine kN ?_ _ | refine kD ?_ | refine kA ?_ _)); refine kP (cs := #[.int .u8 t333, .int .i64 t334, .int .i64 t335, .int .i64 t336, .int .i64 t337, .int .u8 0]) ?_ 5 _ rfl; (with_reducible repeat (first | refine kN ?_ _ | refine kD ?_ | refine kA ?_ _)); refine kP (cs := #[.int .u8 t333, .int .i64 t334, .int .i64 t335, .int .i64 t336, .int .i64 0, .int .u8 0]) ?_ 4 _ rfl; (with_reducible repeat (first | refine kN ?_ _ | refine kD ?_ | refine kA ?_ _)); refine kP (cs := #[.int .u8 t333, .int .i64 t334, .int .i64 t335, .int .i64 0, .int .i64 0, .int .u8 0]) ?_ 3 _ rfl; (with_reducible repeat (first | refine kN ?_ _ | refine kD ?_ | refine kA ?_ _)); refine kP (cs := #[.int .u8 t333, .int .i64 t334, .int .i64 0, .int .i64 0, .int .i64 0, .int .u8 0]) ?_ 2 _ rfl; (with_reducible repeat (first | refine kN ?_ _ | refine kD ?_ | refine kA ?_ _)); refine kP (cs := #[.int .u8 t333, .int .i64 0, .int .i64 0, .int .i64 0, .int .i64 0, .int .u8 0]) ?_ 1 _ rfl; (with_reducible repeat (first | refine kN ?_ _ | refine kD ?_ | refine kA ?_ _)); refine kP (cs := #[.int .u8 0, .int .i64 0, .int .i64 0, .int .i64 0, .int .i64 0, .int .u8 0]) ?_ 0 _ rfl; (with_reducible repeat (first | refine kN ?_ _ | refine kD ?_ | refine kA ?_ _)); exact BK341.out) Tryd.underlying28 rfl (by kernel_rfl) ?_) | ((with_reducible refine gate_store (t := 28) (p := 10) rfl ?_); refine store_event (t := 28) (p := 10) (v := ?vo_w71) (w1 := ((((((((((((((w64.setCell ⟨gb341, 0, none⟩ (.int .u8 t333)).setCell ⟨gb341, 1, none⟩ (.int .i64 t334)).setCell ⟨gb341, 2, none⟩ (.int .i64 t335)).setCell ⟨gb341, 3, none⟩ (.int .i64 t336)).setCell ⟨gb341, 4, none⟩ (.int .i64 t337)).setCell ⟨gb341, 5, none⟩ (.int .u8 t338)).setCell ⟨gb341, 5, none⟩ (.int .u8 1)).setCell ⟨gb341, 4, none⟩ (.int .i64 (wrap64 (t337 + 1)))).setCell ⟨gb323, 0, none⟩ (.int .u8 t333)).setCell ⟨gb323, 1, none⟩ (.int .i64 t334)).setCell ⟨gb323, 2, none⟩ (.int .i64 t335)).setCell ⟨gb323, 3, none⟩ (.int .i64 t336)).setCell ⟨gb323, 4, none⟩ (.int .i64 (wrap64 (t337 + 1)))).setCell ⟨gb323, 5, none⟩ (.int .u8 1))) ?hg ?ho ?hn ?hr ?_; (case ho => rfl); (case hg => rfl); (case hn => rfl); (case hr => first | (go_simp; done) | (go_simp; rfl)); intro w71 hw; have n0_ : Aside0 (w71.heap[gb323]? = some (.cells #[.int .u8 t333, .int .i64 t334, .int .i64 t335, .int .i64 t336, .int .i64 (wrap64 (t337 + 1)), .int .u8 1] 28 (0, 0))) := ⟨(by rw [hw]; exact (by (with_reducible repeat (first | refine kN ?_ _ | refine kD ?_ | refine kA ?_ _)); refine kP (cs := #[.int .u8 t333, .int .i64 t334, .int .i64 t335, .int .i64 t336, .int .i64 (wrap64 (t337 + 1)), .int .u8 a3_5]) ?_ 5 _ rfl; (with_reducible repeat (first | refine kN ?_ _ | refine kD ?_ | refine kA ?_ _)); refine kP (cs := #[.int .u8 t333, .int .i64 t334, .int .i64 t335, .int .i64 t336, .int .i64 a3_4, .int .u8 a3_5]) ?_ 4 _ rfl; (with_reducible repeat (first | refine kN ?_ _ | refine kD ?_ | refine kA ?_ _)); refine kP (cs := #[.int .u8 t333, .int .i64 t334, .int .i64 t335, .int .i64 a3_3, .int .i64 a3_4, .int .u8 a3_5]) ?_ 3 _ rfl; (with_reducible repeat (first | refine kN ?_ _ | refine kD ?_ | refine kA ?_ _)); refine kP (cs := #[.int .u8 t333, .int .i64 t334, .int .i64 a3_2, .int .i64 a3_3, .int .i64 a3_4, .int .u8 a3_5]) ?_ 2 _ rfl; (with_reducible repeat (first | refine kN ?_ _ | refine kD ?_ | refine kA ?_ _)); refine kP (cs := #[.int .u8 t333, .int .i64 a3_1, .int .i64 a3_2, .int .i64 a3_3, .int .i64 a3_4, .int .u8 a3_5]) ?_ 1 _ rfl; (with_reducible repeat (first | refine kN ?_ _ | refine kD ?_ | refine kA ?_ _)); refine kP (cs := #[.int .u8 a3_0, .int .i64 a3_1, .int .i64 a3_2, .int .i64 a3_3, .int .i64 a3_4, .int .u8 a3_5]) ?_ 0 _ rfl; (with_reducible repeat (first | refine kN ?_ _ | refine kD ?_ | refine kA ?_ _)); refine kR ?_ NB323_341.out _; (with_reducible repeat (first | refine kN ?_ _ | refine kD ?_ | refine kA ?_ _)); refine kR ?_ NB323_341.out _; (with_reducible repeat (first | refine kN ?_ _ | refine kD ?_ | refine kA ?_ _)); refine kR ?_ NB323_341.out _; (with_reducible repeat (first | refine kN ?_ _ | refine kD ?_ | refine kA ?_ _)); refine kR ?_ NB323_341.out _; (with_reducible repeat (first | refine kN ?_ _ | refine kD ?_ | refine kA ?_ _)); refine kR ?_ NB323_341.out _; (with_reducible repeat (first | refine kN ?_ _ | refine kD ?_ | refine kA ?_ _)); refine kR ?_ NB323_341.out _; (with_reducible repeat (first | refine kN ?_ _ | refine kD ?_ | refine kA ?_ _)); refine kR ?_ NB323_341.out _; (with_reducible repeat (first | refine kN ?_ _ | refine kD ?_ | refine kA ?_ _)); refine kR ?_ NB323_341.out _; (with_reducible repeat (first | refine kN ?_ _ | refine kD ?_ | refine kA ?_ _)); exact BK323.out))⟩; have n1_ : Aside0 (w71.heap[gb332]? = some (.cells #[.int .i64 t324, .int .i64 t325, .int .u8 t326, .int .i64 t327, .int .i64 t328, .int .i64 t329, .int .i64 t330, .bool t331] 25 (0, 0))) := ⟨(by rw [hw]; exact (by (with_reducible repeat (first | refine kN ?_ _ | refine kD ?_ | refine kA ?_ _)); refine kR ?_ NB332_323.out _; (with_reducible repeat (first | refine kN ?_ _ | refine kD ?_ | refine kA ?_ _)); refine kR ?_ NB332_323.out _; (with_reducible repeat (first | refine kN ?_ _ | refine kD ?_ | refine kA ?_ _)); refine kR ?_ NB332_323.out _; (with_reducible repeat (first | refine kN ?_ _ | refine kD ?_ | refine kA ?_ _)); refine kR ?_ NB332_323.out _; (with_reducible repeat (first | refine kN ?_ _ | refine kD ?_ | refine kA ?_ _)); refine kR ?_ NB332_323.out _; (with_reducible repeat (first | refine kN ?_ _ | refine kD ?_ | refine kA ?_ _)); refine kR ?_ NB332_323.out _; (with_reducible repeat (first | refine kN ?_ _ | refine kD ?_ | refine kA ?_ _)); refine kR ?_ NB332_341.out _; (with_reducible repeat (first | refine kN ?_ _ | refine kD ?_ | refine kA ?_ _)); refine kR ?_ NB332_341.out _; (with_reducible repeat (first | refine kN ?_ _ | refine kD ?_ | refine kA ?_ _)); refine kR ?_ NB332_341.out _; (with_reducible repeat (first | refine kN ?_ _ | refine kD ?_ | refine kA ?_ _)); refine kR ?_ NB332_341.out _; (with_reducible repeat (first | refine kN ?_ _ | refine kD ?_ | refine kA ?_ _)); refine kR ?_ NB332_341.out _; (with_reducible repeat (first | refine kN ?_ _ | refine kD ?_ | refine kA ?_ _)); refine kR ?_ NB332_341.out _; (with_reducible repeat (first | refine kN ?_ _ | refine kD ?_ | refine kA ?_ _)); refine kR ?_ NB332_341.out _; (with_reducible repeat (first | refine kN ?_ _ | refine kD ?_ | refine kA ?_ _)); refine kR ?_ NB332_341.out _; (with_reducible repeat (first | refine kN ?_ _ | refine kD ?_ | refine kA ?_ _)); exact BK332.out))⟩; have n2_ : Aside0 (w71.heap[gb340]? = some (.cells #[.int .u8 t333, .int .i64 t334, .int .i64 t335, .int .i64 t336, .int .i64 t337, .int .u8 t338] 28 (0, 0))) := ⟨(by rw [hw]; exact (by (with_reducible repeat (first | refine kN ?_ _ | refine kD ?_ | refine kA ?_ _)); refine kR ?_ NB340_323.out _; (with_reducible repeat (first | refine kN ?_ _ | refine kD ?_ | refine kA ?_ _)); refine kR ?_ NB340_323.out _; (with_reducible repeat (first | refine kN ?_ _ | refine kD ?_ | refine kA ?_ _)); refine kR ?_ NB340_323.out _; (with_reducible repeat (first | refine kN ?_ _ | refine kD ?_ | refine kA ?_ _)); refine kR ?_ NB340_323.out _; (with_reducible repeat (first | refine kN ?_ _ | refine kD ?_ | refine kA ?_ _)); refine kR ?_ NB340_323.out _; (with_reducible repeat (first | refine kN ?_ _ | refine kD ?_ | refine kA ?_ _)); refine kR ?_ NB340_323.out _; (with_reducible repeat (first | refine kN ?_ _ | refine kD ?_ | refine kA ?_ _)); refine kR ?_ NB340_341.out _; (with_reducible repeat (first | refine kN ?_ _ | refine kD ?_ | refine kA ?_ _)); refine kR ?_ NB340_341.out _; (with_reducible repeat (first | refine kN ?_ _ | refine kD ?_ | refine kA ?_ _)); refine kR ?_ NB340_341.out _; (with_reducible repeat (first | refine kN ?_ _ | refine kD ?_ | refine kA ?_ _)); refine kR ?_ NB340_341.out _; (with_reducible repeat (first | refine kN ?_ _ | refine kD ?_ | refine kA ?_ _)); refine kR ?_ NB340_341.out _; (with_reducible repeat (first | refine kN ?_ _ | refine kD ?_ | refine kA ?_ _)); refine kR ?_ NB340_341.out _; (with_reducible repeat (first | refine kN ?_ _ | refine kD ?_ | refine kA ?_ _)); refine kR ?_ NB340_341.out _; (with_reducible repeat (first | refine kN ?_ _ | refine kD ?_ | refine kA ?_ _)); refine kR ?_ NB340_341.out _; (with_reducible repeat (first | refine kN ?_ _ | refine kD ?_ | refine kA ?_ _)); exact BK340.out))⟩; have n3_ : Aside0 (w71.heap[gb341]? = some (.cells #[.int .u8 t333, .int .i64 t334, .int .i64 t335, .int .i64 t336, .int .i64 (wrap64 (t337 + 1)), .int .u8 1] 28 (0, 0))) := ⟨(by rw [hw]; exact (by (with_reducible repeat (first | refine kN ?_ _ | refine kD ?_ | refine kA ?_ _)); refine kR ?_ NB341_323.out _; (with_reducible repeat (first | refine kN ?_ _ | refine kD ?_ | refine kA ?_ _)); refine kR ?_ NB341_323.out _; (with_reducible repeat (first | refine kN ?_ _ | refine kD ?_ | refine kA ?_ _)); refine kR ?_ NB341_323.out _; (with_reducible repeat (first | refine kN ?_ _ | refine kD ?_ | refine kA ?_ _)); refine kR ?_ NB341_323.out _; (with_reducible repeat (first | refine kN ?_ _ | refine kD ?_ | refine kA ?_ _)); refine kR ?_ NB341_323.out _; (with_reducible repeat (first | refine kN ?_ _ | refine kD ?_ | refine kA ?_ _)); refine kR ?_ NB341_323.out _; (with_reducible repeat (first | refine kN ?_ _ | refine kD ?_ | refine kA ?_ _)); refine kP (cs := #[.int .u8 t333, .int .i64 t334, .int .i64 t335, .int .i64 t336, .int .i64 t337, .int .u8 1]) ?_ 4 _ rfl; (with_reducible repeat (first | refine kN ?_ _ | refine kD ?_ | refine kA ?_ _)); refine kP (cs := #[.int .u8 t333, .int .i64 t334, .int .i64 t335, .int .i64 t336, .int .i64 t337, .int .u8 t338]) ?_ 5 _ rfl; (with_reducible repeat (first | refine kN ?_ _ | refine kD ?_ | refine kA ?_ _)); refine kP (cs := #[.int .u8 t333, .int .i64 t334, .int .i64 t335, .int .i64 t336, .int .i64 t337, .int .u8 0]) ?_ 5 _ rfl; (with_reducible repeat (first | refine kN ?_ _ | refine kD ?_ | refine kA ?_ _)); refine kP (cs := #[.int .u8 t333, .int .i64 t334, .int .i64 t335, .int .i64 t336, .int .i64 0, .int .u8 0]) ?_ 4 _ rfl; (with_reducible repeat (first | refine kN ?_ _ | refine kD ?_ | refine kA ?_ _)); refine kP (cs := #[.int .u8 t333, .int .i64 t334, .int .i64 t335, .int .i64 0, .int .i64 0, .int .u8 0]) ?_ 3 _ rfl; (with_reducible repeat (first | refine kN ?_ _ | refine kD ?_ | refine kA ?_ _)); refine kP (cs := #[.int .u8 t333, .int .i64 t334, .int .i64 0, .int .i64 0, .int .i64 0, .int .u8 0]) ?_ 2 _ rfl; (with_reducible repeat (first | refine kN ?_ _ | refine kD ?_ | refine kA ?_ _)); refine kP (cs := #[.int .u8 t333, .int .i64 0, .int .i64 0, .int .i64 0, .int .i64 0, .int .u8 0]) ?_ 1 _ rfl; (with_reducible repeat (first | refine kN ?_ _ | refine kD ?_ | refine kA ?_ _)); refine kP (cs := #[.int .u8 0, .int .i64 0, .int .i64 0, .int .i64 0, .int .i64 0, .int .u8 0]) ?_ 0 _ rfl; (with_reducible repeat (first | refine kN ?_ _ | refine kD ?_ | refine kA ?_ _)); exact BK341.out))⟩; have n4_ : Aside0 (Below w.heap.size w w71) := ⟨(by rw [hw]; exact (by repeat (first | (with_reducible first | exact HB.out | apply kL | apply kM | apply kE | refine kS ?_ GE323.out | refine kS ?_ GE332.out | refine kS ?_ GE340.out | refine kS ?_ GE341.out) | exact HB.out)))⟩; clear hw; clear BK323; clear BK332; clear BK340; clear BK341; clear HB; have BK323 := n0_; have BK332 := n1_; have BK340 := n2_; have BK341 := n3_; have HB := n4_; clear n0_ n1_ n2_ n3_ n4_))
         go_meet
         case rel => exact ⟨_, (t333), (t334), (t335), (t336), (wrap64 (t337 + 1)), (1), H', ⟨by have := HJ9.out; first | omega | exact Nat.le_refl _⟩, ⟨by (with_reducible repeat (first | refine kN ?_ _ | refine kD ?_ | refine kA ?_ _)); exact BK323.out⟩, ⟨by (with_reducible repeat (first | refine kN ?_ _ | refine kD ?_ | refine kA ?_ _)); exact BK332.out⟩, ⟨by (with_reducible repeat (first | refine kN ?_ _ | refine kD ?_ | refine kA ?_ _)); exact BK340.out⟩, ⟨by repeat (first | (with_reducible first | exact HB.out | apply kL | apply kM | apply kE | refine kS ?_ GE323.out | refine kS ?_ GE332.out | refine kS ?_ GE340.out | refine kS ?_ GE341.out) | exact HB.out)⟩⟩
        ·rw [if_neg c60] at H
         have c60b0 : ((Int.tmod a4 6) == 3) = false := beq_eq_false_iff_ne.mpr c60
         have c60b1 : ((Int.tmod a4 6) != 3) = true := bne_iff_ne.mpr c60
         by_cases c72 : (Int.tmod a4 6) = 4
         ·rw [if_pos c72] at H
          have c72b0 : ((Int.tmod a4 6) == 4) = true := beq_iff_eq.mpr c72
          have c72b1 : ((Int.tmod a4 6) != 4) = false := bne_eq_false_iff_eq.mpr c72
          clear c72
          have H' := Aside0.mk H
          clear H
          have hnb73 := NB340_323.out
          have hnc73 := NB323_340.out
          have hnb74 := NB340_332.out
          have hnc74 := NB332_340.out
          have hcz75_0 : wc.cell? ⟨gb340, 0, none⟩ = some (.int .u8 t333) := (kC BK340.out 0).trans rfl
          have hcz75_1 : wc.cell? ⟨gb340, 1, none⟩ = some (.int .i64 t334) := (kC BK340.out 1).trans rfl
          have hcz75_2 : wc.cell? ⟨gb340, 2, none⟩ = some (.int .i64 t335) := (kC BK340.out 2).trans rfl
          have hcz75_3 : wc.cell? ⟨gb340, 3, none⟩ = some (.int .i64 t336) := (kC BK340.out 3).trans rfl
          have hcz75_4 : wc.cell? ⟨gb340, 4, none⟩ = some (.int .i64 t337) := (kC BK340.out 4).trans rfl
          have hcz75_5 : wc.cell? ⟨gb340, 5, none⟩ = some (.int .u8 t338) := (kC BK340.out 5).trans rfl
          have hfz75_0 := kF BK340.out 0
          have hfz75_1 := kF BK340.out 1
          have hfz75_2 := kF BK340.out 2
          have hfz75_3 := kF BK340.out 3
          have hfz75_4 := kF BK340.out 4
          have hfz75_5 := kF BK340.out 5
          go_wp2_with (first | ((with_reducible refine gate_dst (N := 18) rfl ?_); refine box_event ?hg (N := 18) ?hd (cs := #[.int .u8 0, .int .i64 0, .int .i64 0, .int .i64 0, .int .i64 0, .int .u8 0]) (t := 28) ?hr ?_; (case hd => rfl); (case hg => rfl); (case hr => first | (go_simp; done) | (go_simp; rfl)); intro gb341 hg w76 hbox hb; have n0_ := Aside0.mk (blk_below (g := gb323) (o := .cells #[.int .u8 a3_0, .int .i64 a3_1, .int .i64 a3_2, .int .i64 a3_3, .int .i64 a3_4, .int .u8 a3_5] 28 (0, 0)) (by (with_reducible repeat (first | refine kN ?_ _ | refine kD ?_ | refine kA ?_ _)); exact BK323.out) hb); have n1_ := Aside0.mk (blk_below (g := gb332) (o := .cells #[.int .i64 t324, .int .i64 t325, .int .u8 t326, .int .i64 t327, .int .i64 t328, .int .i64 t329, .int .i64 t330, .bool t331] 25 (0, 0)) (by (with_reducible repeat (first | refine kN ?_ _ | refine kD ?_ | refine kA ?_ _)); exact BK332.out) hb); have n2_ := Aside0.mk (blk_below (g := gb340) (o := .cells #[.int .u8 t333, .int .i64 t334, .int .i64 t335, .int .i64 t336, .int .i64 t337, .int .u8 t338] 28 (0, 0)) (by (with_reducible repeat (first | refine kN ?_ _ | refine kD ?_ | refine kA ?_ _)); exact BK340.out) hb); have n3_ := Aside0.mk (below_step (by repeat (first | (with_reducible first | exact HB.out | apply kL | apply kM | apply kE | refine kS ?_ GE323.out | refine kS ?_ GE332.out | refine kS ?_ GE340.out) | exact HB.out)) hb); have n4_ := Aside0.mk (hbox); have n5_ := Aside0.mk ((by rw [hg]; exact (below_size (by repeat (first | (with_reducible first | exact HB.out | apply kL | apply kM | apply kE | refine kS ?_ GE323.out | refine kS ?_ GE332.out | refine kS ?_ GE340.out) | exact HB.out))) : w.heap.size ≤ gb341)); have n6_ := Aside0.mk ((by rw [hg]; exact (below_size (by repeat (first | (with_reducible first | exact HB.out | apply kL | apply kM | apply kE | refine kS ?_ GE323.out | refine kS ?_ GE332.out | refine kS ?_ GE340.out) | exact HB.out))) : w.heap.size ≤ gb341)); have n7_ := Aside0.mk ((by rw [hg]; exact Nat.ne_of_lt (blk_lt (g := gb323) (o := .cells #[.int .u8 a3_0, .int .i64 a3_1, .int .i64 a3_2, .int .i64 a3_3, .int .i64 a3_4, .int .u8 a3_5] 28 (0, 0)) (by (with_reducible repeat (first | refine kN ?_ _ | refine kD ?_ | refine kA ?_ _)); exact BK323.out)) : gb323 ≠ gb341)); have n8_ := Aside0.mk ((by rw [hg]; exact Nat.ne_of_gt (blk_lt (g := gb323) (o := .cells #[.int .u8 a3_0, .int .i64 a3_1, .int .i64 a3_2, .int .i64 a3_3, .int .i64 a3_4, .int .u8 a3_5] 28 (0, 0)) (by (with_reducible repeat (first | refine kN ?_ _ | refine kD ?_ | refine kA ?_ _)); exact BK323.out)) : gb341 ≠ gb323)); have n9_ := Aside0.mk ((by rw [hg]; exact Nat.ne_of_lt (blk_lt (g := gb332) (o := .cells #[.int .i64 t324, .int .i64 t325, .int .u8 t326, .int .i64 t327, .int .i64 t328, .int .i64 t329, .int .i64 t330, .bool t331] 25 (0, 0)) (by (with_reducible repeat (first | refine kN ?_ _ | refine kD ?_ | refine kA ?_ _)); exact BK332.out)) : gb332 ≠ gb341)); have n10_ := Aside0.mk ((by rw [hg]; exact Nat.ne_of_gt (blk_lt (g := gb332) (o := .cells #[.int .i64 t324, .int .i64 t325, .int .u8 t326, .int .i64 t327, .int .i64 t328, .int .i64 t329, .int .i64 t330, .bool t331] 25 (0, 0)) (by (with_reducible repeat (first | refine kN ?_ _ | refine kD ?_ | refine kA ?_ _)); exact BK332.out)) : gb341 ≠ gb332)); have n11_ := Aside0.mk ((by rw [hg]; exact Nat.ne_of_lt (blk_lt (g := gb340) (o := .cells #[.int .u8 t333, .int .i64 t334, .int .i64 t335, .int .i64 t336, .int .i64 t337, .int .u8 t338] 28 (0, 0)) (by (with_reducible repeat (first | refine kN ?_ _ | refine kD ?_ | refine kA ?_ _)); exact BK340.out)) : gb340 ≠ gb341)); have n12_ := Aside0.mk ((by rw [hg]; exact Nat.ne_of_gt (blk_lt (g := gb340) (o := .cells #[.int .u8 t333, .int .i64 t334, .int .i64 t335, .int .i64 t336, .int .i64 t337, .int .u8 t338] 28 (0, 0)) (by (with_reducible repeat (first | refine kN ?_ _ | refine kD ?_ | refine kA ?_ _)); exact BK340.out)) : gb341 ≠ gb340)); clear BK323; clear BK332; clear BK340; clear HB; have BK323 := n0_; have BK332 := n1_; have BK340 := n2_; have HB := n3_; have BK341 := n4_; have GW341 := n5_; have GE341 := n6_; have NB323_341 := n7_; have NB341_323 := n8_; have NB332_341 := n9_; have NB341_332 := n10_; have NB340_341 := n11_; have NB341_340 := n12_; clear n0_ n1_ n2_ n3_ n4_ n5_ n6_ n7_ n8_ n9_ n10_ n11_ n12_; clear hb hbox hg; have hnb77 := NB341_323.out; have hnc77 := NB323_341.out; have hnb78 := NB341_332.out; have hnc78 := NB332_341.out; have hnb79 := NB341_340.out; have hnc79 := NB340_341.out; have hcz80_0 : w76.cell? ⟨gb341, 0, none⟩ = some (.int .u8 0) := (kC BK341.out 0).trans rfl; have hcz80_1 : w76.cell? ⟨gb341, 1, none⟩ = some (.int .i64 0) := (kC BK341.out 1).trans rfl; have hcz80_2 : w76.cell? ⟨gb341, 2, none⟩ = some (.int .i64 0) := (kC BK341.out 2).trans rfl; have hcz80_3 : w76.cell? ⟨gb341, 3, none⟩ = some (.int .i64 0) := (kC BK341.out 3).trans rfl; have hcz80_4 : w76.cell? ⟨gb341, 4, none⟩ = some (.int .i64 0) := (kC BK341.out 4).trans rfl; have hcz80_5 : w76.cell? ⟨gb341, 5, none⟩ = some (.int .u8 0) := (kC BK341.out 5).trans rfl; have hfz80_0 := kF BK341.out 0; have hfz80_1 := kF BK341.out 1; have hfz80_2 := kF BK341.out 2; have hfz80_3 := kF BK341.out 3; have hfz80_4 := kF BK341.out 4; have hfz80_5 := kF BK341.out 5; have hnb81 := NB323_332.out; have hnc81 := NB332_323.out; have hcz82_0 : w76.cell? ⟨gb323, 0, none⟩ = some (.int .u8 a3_0) := (kC BK323.out 0).trans rfl; have hcz82_1 : w76.cell? ⟨gb323, 1, none⟩ = some (.int .i64 a3_1) := (kC BK323.out 1).trans rfl; have hcz82_2 : w76.cell? ⟨gb323, 2, none⟩ = some (.int .i64 a3_2) := (kC BK323.out 2).trans rfl; have hcz82_3 : w76.cell? ⟨gb323, 3, none⟩ = some (.int .i64 a3_3) := (kC BK323.out 3).trans rfl; have hcz82_4 : w76.cell? ⟨gb323, 4, none⟩ = some (.int .i64 a3_4) := (kC BK323.out 4).trans rfl; have hcz82_5 : w76.cell? ⟨gb323, 5, none⟩ = some (.int .u8 a3_5) := (kC BK323.out 5).trans rfl; have hfz82_0 := kF BK323.out 0; have hfz82_1 := kF BK323.out 1; have hfz82_2 := kF BK323.out 2; have hfz82_3 := kF BK323.out 3; have hfz82_4 := kF BK323.out 4; have hfz82_5 := kF BK323.out 5) | ((with_reducible refine gate_dst (N := 71) rfl ?_); refine wpList_load_row rfl 28 (.tmp 18) rfl gb341 rfl 28 #[.int .u8 ((1 + (Int.tmod t333 5)) % 256), .int .i64 t334, .int .i64 t335, .int .i64 t336, .int .i64 t337, .int .u8 1] (0, 0) _ (by (with_reducible repeat (first | refine kN ?_ _ | refine kD ?_ | refine kA ?_ _)); refine kP (cs := #[.int .u8 t333, .int .i64 t334, .int .i64 t335, .int .i64 t336, .int .i64 t337, .int .u8 1]) ?_ 0 _ rfl; (with_reducible repeat (first | refine kN ?_ _ | refine kD ?_ | refine kA ?_ _)); refine kP (cs := #[.int .u8 t333, .int .i64 t334, .int .i64 t335, .int .i64 t336, .int .i64 t337, .int .u8 t338]) ?_ 5 _ rfl; (with_reducible repeat (first | refine kN ?_ _ | refine kD ?_ | refine kA ?_ _)); refine kP (cs := #[.int .u8 t333, .int .i64 t334, .int .i64 t335, .int .i64 t336, .int .i64 t337, .int .u8 0]) ?_ 5 _ rfl; (with_reducible repeat (first | refine kN ?_ _ | refine kD ?_ | refine kA ?_ _)); refine kP (cs := #[.int .u8 t333, .int .i64 t334, .int .i64 t335, .int .i64 t336, .int .i64 0, .int .u8 0]) ?_ 4 _ rfl; (with_reducible repeat (first | refine kN ?_ _ | refine kD ?_ | refine kA ?_ _)); refine kP (cs := #[.int .u8 t333, .int .i64 t334, .int .i64 t335, .int .i64 0, .int .i64 0, .int .u8 0]) ?_ 3 _ rfl; (with_reducible repeat (first | refine kN ?_ _ | refine kD ?_ | refine kA ?_ _)); refine kP (cs := #[.int .u8 t333, .int .i64 t334, .int .i64 0, .int .i64 0, .int .i64 0, .int .u8 0]) ?_ 2 _ rfl; (with_reducible repeat (first | refine kN ?_ _ | refine kD ?_ | refine kA ?_ _)); refine kP (cs := #[.int .u8 t333, .int .i64 0, .int .i64 0, .int .i64 0, .int .i64 0, .int .u8 0]) ?_ 1 _ rfl; (with_reducible repeat (first | refine kN ?_ _ | refine kD ?_ | refine kA ?_ _)); refine kP (cs := #[.int .u8 0, .int .i64 0, .int .i64 0, .int .i64 0, .int .i64 0, .int .u8 0]) ?_ 0 _ rfl; (with_reducible repeat (first | refine kN ?_ _ | refine kD ?_ | refine kA ?_ _)); exact BK341.out) Tryd.underlying28 rfl (by kernel_rfl) ?_) | ((with_reducible refine gate_store (t := 28) (p := 10) rfl ?_); refine store_event (t := 28) (p := 10) (v := ?vo_w83) (w1 := ((((((((((((((w76.setCell ⟨gb341, 0, none⟩ (.int .u8 t333)).setCell ⟨gb341, 1, none⟩ (.int .i64 t334)).setCell ⟨gb341, 2, none⟩ (.int .i64 t335)).setCell ⟨gb341, 3, none⟩ (.int .i64 t336)).setCell ⟨gb341, 4, none⟩ (.int .i64 t337)).setCell ⟨gb341, 5, none⟩ (.int .u8 t338)).setCell ⟨gb341, 5, none⟩ (.int .u8 1)).setCell ⟨gb341, 0, none⟩ (.int .u8 ((1 + (Int.tmod t333 5)) % 256))).setCell ⟨gb323, 0, none⟩ (.int .u8 ((1 + (Int.tmod t333 5)) % 256))).setCell ⟨gb323, 1, none⟩ (.int .i64 t334)).setCell ⟨gb323, 2, none⟩ (.int .i64 t335)).setCell ⟨gb323, 3, none⟩ (.int .i64 t336)).setCell ⟨gb323, 4, none⟩ (.int .i64 t337)).setCell ⟨gb323, 5, none⟩ (.int .u8 1))) ?hg ?ho ?hn ?hr ?_; (case ho => rfl); (case hg => rfl); (case hn => rfl); (case hr => first | (go_simp; done) | (go_simp; rfl)); intro w83 hw; have n0_ : Aside0 (w83.heap[gb323]? = some (.cells #[.int .u8 ((1 + (Int.tmod t333 5)) % 256), .int .i64 t334, .int .i64 t335, .int .i64 t336, .int .i64 t337, .int .u8 1] 28 (0, 0))) := ⟨(by rw [hw]; exact (by (with_reducible repeat (first | refine kN ?_ _ | refine kD ?_ | refine kA ?_ _)); refine kP (cs := #[.int .u8 ((1 + (Int.tmod t333 5)) % 256), .int .i64 t334, .int .i64 t335, .int .i64 t336, .int .i64 t337, .int .u8 a3_5]) ?_ 5 _ rfl; (with_reducible repeat (first | refine kN ?_ _ | refine kD ?_ | refine kA ?_ _)); refine kP (cs := #[.int .u8 ((1 + (Int.tmod t333 5)) % 256), .int .i64 t334, .int .i64 t335, .int .i64 t336, .int .i64 a3_4, .int .u8 a3_5]) ?_ 4 _ rfl; (with_reducible repeat (first | refine kN ?_ _ | refine kD ?_ | refine kA ?_ _)); refine kP (cs := #[.int .u8 ((1 + (Int.tmod t333 5)) % 256), .int .i64 t334, .int .i64 t335, .int .i64 a3_3, .int .i64 a3_4, .int .u8 a3_5]) ?_ 3 _ rfl; (with_reducible repeat (first | refine kN ?_ _ | refine kD ?_ | refine kA ?_ _)); refine kP (cs := #[.int .u8 ((1 + (Int.tmod t333 5)) % 256), .int .i64 t334, .int .i64 a3_2, .int .i64 a3_3, .int .i64 a3_4, .int .u8 a3_5]) ?_ 2 _ rfl; (with_reducible repeat (first | refine kN ?_ _ | refine kD ?_ | refine kA ?_ _)); refine kP (cs := #[.int .u8 ((1 + (Int.tmod t333 5)) % 256), .int .i64 a3_1, .int .i64 a3_2, .int .i64 a3_3, .int .i64 a3_4, .int .u8 a3_5]) ?_ 1 _ rfl; (with_reducible repeat (first | refine kN ?_ _ | refine kD ?_ | refine kA ?_ _)); refine kP (cs := #[.int .u8 a3_0, .int .i64 a3_1, .int .i64 a3_2, .int .i64 a3_3, .int .i64 a3_4, .int .u8 a3_5]) ?_ 0 _ rfl; (with_reducible repeat (first | refine kN ?_ _ | refine kD ?_ | refine kA ?_ _)); refine kR ?_ NB323_341.out _; (with_reducible repeat (first | refine kN ?_ _ | refine kD ?_ | refine kA ?_ _)); refine kR ?_ NB323_341.out _; (with_reducible repeat (first | refine kN ?_ _ | refine kD ?_ | refine kA ?_ _)); refine kR ?_ NB323_341.out _; (with_reducible repeat (first | refine kN ?_ _ | refine kD ?_ | refine kA ?_ _)); refine kR ?_ NB323_341.out _; (with_reducible repeat (first | refine kN ?_ _ | refine kD ?_ | refine kA ?_ _)); refine kR ?_ NB323_341.out _; (with_reducible repeat (first | refine kN ?_ _ | refine kD ?_ | refine kA ?_ _)); refine kR ?_ NB323_341.out _; (with_reducible repeat (first | refine kN ?_ _ | refine kD ?_ | refine kA ?_ _)); refine kR ?_ NB323_341.out _; (with_reducible repeat (first | refine kN ?_ _ | refine kD ?_ | refine kA ?_ _)); refine kR ?_ NB323_341.out _; (with_reducible repeat (first | refine kN ?_ _ | refine kD ?_ | refine kA ?_ _)); exact BK323.out))⟩; have n1_ : Aside0 (w83.heap[gb332]? = some (.cells #[.int .i64 t324, .int .i64 t325, .int .u8 t326, .int .i64 t327, .int .i64 t328, .int .i64 t329, .int .i64 t330, .bool t331] 25 (0, 0))) := ⟨(by rw [hw]; exact (by (with_reducible repeat (first | refine kN ?_ _ | refine kD ?_ | refine kA ?_ _)); refine kR ?_ NB332_323.out _; (with_reducible repeat (first | refine kN ?_ _ | refine kD ?_ | refine kA ?_ _)); refine kR ?_ NB332_323.out _; (with_reducible repeat (first | refine kN ?_ _ | refine kD ?_ | refine kA ?_ _)); refine kR ?_ NB332_323.out _; (with_reducible repeat (first | refine kN ?_ _ | refine kD ?_ | refine kA ?_ _)); refine kR ?_ NB332_323.out _; (with_reducible repeat (first | refine kN ?_ _ | refine kD ?_ | refine kA ?_ _)); refine kR ?_ NB332_323.out _; (with_reducible repeat (first | refine kN ?_ _ | refine kD ?_ | refine kA ?_ _)); refine kR ?_ NB332_323.out _; (with_reducible repeat (first | refine kN ?_ _ | refine kD ?_ | refine kA ?_ _)); refine kR ?_ NB332_341.out _; (with_reducible repeat (first | refine kN ?_ _ | refine kD ?_ | refine kA ?_ _)); refine kR ?_ NB332_341.out _; (with_reducible repeat (first | refine kN ?_ _ | refine kD ?_ | refine kA ?_ _)); refine kR ?_ NB332_341.out _; (with_reducible repeat (first | refine kN ?_ _ | refine kD ?_ | refine kA ?_ _)); refine kR ?_ NB332_341.out _; (with_reducible repeat (first | refine kN ?_ _ | refine kD ?_ | refine kA ?_ _)); refine kR ?_ NB332_341.out _; (with_reducible repeat (first | refine kN ?_ _ | refine kD ?_ | refine kA ?_ _)); refine kR ?_ NB332_341.out _; (with_reducible repeat (first | refine kN ?_ _ | refine kD ?_ | refine kA ?_ _)); refine kR ?_ NB332_341.out _; (with_reducible repeat (first | refine kN ?_ _ | refine kD ?_ | refine kA ?_ _)); refine kR ?_ NB332_341.out _; (with_reducible repeat (first | refine kN ?_ _ | refine kD ?_ | refine kA ?_ _)); exact BK332.out))⟩; have n2_ : Aside0 (w83.heap[gb340]? = some (.cells #[.int .u8 t333, .int .i64 t334, .int .i64 t335, .int .i64 t336, .int .i64 t337, .int .u8 t338] 28 (0, 0))) := ⟨(by rw [hw]; exact (by (with_reducible repeat (first | refine kN ?_ _ | refine kD ?_ | refine kA ?_ _)); refine kR ?_ NB340_323.out _; (with_reducible repeat (first | refine kN ?_ _ | refine kD ?_ | refine kA ?_ _)); refine kR ?_ NB340_323.out _; (with_reducible repeat (first | refine kN ?_ _ | refine kD ?_ | refine kA ?_ _)); refine kR ?_ NB340_323.out _; (with_reducible repeat (first | refine kN ?_ _ | refine kD ?_ | refine kA ?_ _)); refine kR ?_ NB340_323.out _; (with_reducible repeat (first | refine kN ?_ _ | refine kD ?_ | refine kA ?_ _)); refine kR ?_ NB340_323.out _; (with_reducible repeat (first | refine kN ?_ _ | refine kD ?_ | refine kA ?_ _)); refine kR ?_ NB340_323.out _; (with_reducible repeat (first | refine kN ?_ _ | refine kD ?_ | refine kA ?_ _)); refine kR ?_ NB340_341.out _; (with_reducible repeat (first | refine kN ?_ _ | refine kD ?_ | refine kA ?_ _)); refine kR ?_ NB340_341.out _; (with_reducible repeat (first | refine kN ?_ _ | refine kD ?_ | refine kA ?_ _)); refine kR ?_ NB340_341.out _; (with_reducible repeat (first | refine kN ?_ _ | refine kD ?_ | refine kA ?_ _)); refine kR ?_ NB340_341.out _; (with_reducible repeat (first | refine kN ?_ _ | refine kD ?_ | refine kA ?_ _)); refine kR ?_ NB340_341.out _; (with_reducible repeat (first | refine kN ?_ _ | refine kD ?_ | refine kA ?_ _)); refine kR ?_ NB340_341.out _; (with_reducible repeat (first | refine kN ?_ _ | refine kD ?_ | refine kA ?_ _)); refine kR ?_ NB340_341.out _; (with_reducible repeat (first | refine kN ?_ _ | refine kD ?_ | refine kA ?_ _)); refine kR ?_ NB340_341.out _; (with_reducible repeat (first | refine kN ?_ _ | refine kD ?_ | refine kA ?_ _)); exact BK340.out))⟩; have n3_ : Aside0 (w83.heap[gb341]? = some (.cells #[.int .u8 ((1 + (Int.tmod t333 5)) % 256), .int .i64 t334, .int .i64 t335, .int .i64 t336, .int .i64 t337, .int .u8 1] 28 (0, 0))) := ⟨(by rw [hw]; exact (by (with_reducible repeat (first | refine kN ?_ _ | refine kD ?_ | refine kA ?_ _)); refine kR ?_ NB341_323.out _; (with_reducible repeat (first | refine kN ?_ _ | refine kD ?_ | refine kA ?_ _)); refine kR ?_ NB341_323.out _; (with_reducible repeat (first | refine kN ?_ _ | refine kD ?_ | refine kA ?_ _)); refine kR ?_ NB341_323.out _; (with_reducible repeat (first | refine kN ?_ _ | refine kD ?_ | refine kA ?_ _)); refine kR ?_ NB341_323.out _; (with_reducible repeat (first | refine kN ?_ _ | refine kD ?_ | refine kA ?_ _)); refine kR ?_ NB341_323.out _; (with_reducible repeat (first | refine kN ?_ _ | refine kD ?_ | refine kA ?_ _)); refine kR ?_ NB341_323.out _; (with_reducible repeat (first | refine kN ?_ _ | refine kD ?_ | refine kA ?_ _)); refine kP (cs := #[.int .u8 t333, .int .i64 t334, .int .i64 t335, .int .i64 t336, .int .i64 t337, .int .u8 1]) ?_ 0 _ rfl; (with_reducible repeat (first | refine kN ?_ _ | refine kD ?_ | refine kA ?_ _)); refine kP (cs := #[.int .u8 t333, .int .i64 t334, .int .i64 t335, .int .i64 t336, .int .i64 t337, .int .u8 t338]) ?_ 5 _ rfl; (with_reducible repeat (first | refine kN ?_ _ | refine kD ?_ | refine kA ?_ _)); refine kP (cs := #[.int .u8 t333, .int .i64 t334, .int .i64 t335, .int .i64 t336, .int .i64 t337, .int .u8 0]) ?_ 5 _ rfl; (with_reducible repeat (first | refine kN ?_ _ | refine kD ?_ | refine kA ?_ _)); refine kP (cs := #[.int .u8 t333, .int .i64 t334, .int .i64 t335, .int .i64 t336, .int .i64 0, .int .u8 0]) ?_ 4 _ rfl; (with_reducible repeat (first | refine kN ?_ _ | refine kD ?_ | refine kA ?_ _)); refine kP (cs := #[.int .u8 t333, .int .i64 t334, .int .i64 t335, .int .i64 0, .int .i64 0, .int .u8 0]) ?_ 3 _ rfl; (with_reducible repeat (first | refine kN ?_ _ | refine kD ?_ | refine kA ?_ _)); refine kP (cs := #[.int .u8 t333, .int .i64 t334, .int .i64 0, .int .i64 0, .int .i64 0, .int .u8 0]) ?_ 2 _ rfl; (with_reducible repeat (first | refine kN ?_ _ | refine kD ?_ | refine kA ?_ _)); refine kP (cs := #[.int .u8 t333, .int .i64 0, .int .i64 0, .int .i64 0, .int .i64 0, .int .u8 0]) ?_ 1 _ rfl; (with_reducible repeat (first | refine kN ?_ _ | refine kD ?_ | refine kA ?_ _)); refine kP (cs := #[.int .u8 0, .int .i64 0, .int .i64 0, .int .i64 0, .int .i64 0, .int .u8 0]) ?_ 0 _ rfl; (with_reducible repeat (first | refine kN ?_ _ | refine kD ?_ | refine kA ?_ _)); exact BK341.out))⟩; have n4_ : Aside0 (Below w.heap.size w w83) := ⟨(by rw [hw]; exact (by repeat (first | (with_reducible first | exact HB.out | apply kL | apply kM | apply kE | refine kS ?_ GE323.out | refine kS ?_ GE332.out | refine kS ?_ GE340.out | refine kS ?_ GE341.out) | exact HB.out)))⟩; clear hw; clear BK323; clear BK332; clear BK340; clear BK341; clear HB; have BK323 := n0_; have BK332 := n1_; have BK340 := n2_; have BK341 := n3_; have HB := n4_; clear n0_ n1_ n2_ n3_ n4_))
          go_meet
          case rel => exact ⟨_, ((1 + (Int.tmod t333 5)) % 256), (t334), (t335), (t336), (t337), (1), H', ⟨by have := HJ9.out; first | omega | exact Nat.le_refl _⟩, ⟨by (with_reducible repeat (first | refine kN ?_ _ | refine kD ?_ | refine kA ?_ _)); exact BK323.out⟩, ⟨by (with_reducible repeat (first | refine kN ?_ _ | refine kD ?_ | refine kA ?_ _)); exact BK332.out⟩, ⟨by (with_reducible repeat (first | refine kN ?_ _ | refine kD ?_ | refine kA ?_ _)); exact BK340.out⟩, ⟨by repeat (first | (with_reducible first | exact HB.out | apply kL | apply kM | apply kE | refine kS ?_ GE323.out | refine kS ?_ GE332.out | refine kS ?_ GE340.out | refine kS ?_ GE341.out) | exact HB.out)⟩⟩
         ·rw [if_neg c72] at H
          have c72b0 : ((Int.tmod a4 6) == 4) = false := beq_eq_false_iff_ne.mpr c72
          have c72b1 : ((Int.tmod a4 6) != 4) = true := bne_iff_ne.mpr c72
          have H' := Aside0.mk H
          clear H
          have hnb84 := NB340_323.out
          have hnc84 := NB323_340.out
          have hnb85 := NB340_332.out
          have hnc85 := NB332_340.out
          have hcz86_0 : wc.cell? ⟨gb340, 0, none⟩ = some (.int .u8 t333) := (kC BK340.out 0).trans rfl
          have hcz86_1 : wc.cell? ⟨gb340, 1, none⟩ = some (.int .i64 t334) := (kC BK340.out 1).trans rfl
          have hcz86_2 : wc.cell? ⟨gb340, 2, none⟩ = some (.int .i64 t335) := (kC BK340.out 2).trans rfl
          have hcz86_3 : wc.cell? ⟨gb340, 3, none⟩ = some (.int .i64 t336) := (kC BK340.out 3).trans rfl
          have hcz86_4 : wc.cell? ⟨gb340, 4, none⟩ = some (.int .i64 t337) := (kC BK340.out 4).trans rfl
          have hcz86_5 : wc.cell? ⟨gb340, 5, none⟩ = some (.int .u8 t338) := (kC BK340.out 5).trans rfl
          have hfz86_0 := kF BK340.out 0
          have hfz86_1 := kF BK340.out 1
          have hfz86_2 := kF BK340.out 2
          have hfz86_3 := kF BK340.out 3
          have hfz86_4 := kF BK340.out 4
          have hfz86_5 := kF BK340.out 5
          go_wp2_with (first | ((with_reducible refine gate_dst (N := 18) rfl ?_); refine box_event ?hg (N := 18) ?hd (cs := #[.int .u8 0, .int .i64 0, .int .i64 0, .int .i64 0, .int .i64 0, .int .u8 0]) (t := 28) ?hr ?_; (case hd => rfl); (case hg => rfl); (case hr => first | (go_simp; done) | (go_simp; rfl)); intro gb341 hg w87 hbox hb; have n0_ := Aside0.mk (blk_below (g := gb323) (o := .cells #[.int .u8 a3_0, .int .i64 a3_1, .int .i64 a3_2, .int .i64 a3_3, .int .i64 a3_4, .int .u8 a3_5] 28 (0, 0)) (by (with_reducible repeat (first | refine kN ?_ _ | refine kD ?_ | refine kA ?_ _)); exact BK323.out) hb); have n1_ := Aside0.mk (blk_below (g := gb332) (o := .cells #[.int .i64 t324, .int .i64 t325, .int .u8 t326, .int .i64 t327, .int .i64 t328, .int .i64 t329, .int .i64 t330, .bool t331] 25 (0, 0)) (by (with_reducible repeat (first | refine kN ?_ _ | refine kD ?_ | refine kA ?_ _)); exact BK332.out) hb); have n2_ := Aside0.mk (blk_below (g := gb340) (o := .cells #[.int .u8 t333, .int .i64 t334, .int .i64 t335, .int .i64 t336, .int .i64 t337, .int .u8 t338] 28 (0, 0)) (by (with_reducible repeat (first | refine kN ?_ _ | refine kD ?_ | refine kA ?_ _)); exact BK340.out) hb); have n3_ := Aside0.mk (below_step (by repeat (first | (with_reducible first | exact HB.out | apply kL | apply kM | apply kE | refine kS ?_ GE323.out | refine kS ?_ GE332.out | refine kS ?_ GE340.out) | exact HB.out)) hb); have n4_ := Aside0.mk (hbox); have n5_ := Aside0.mk ((by rw [hg]; exact (below_size (by repeat (first | (with_reducible first | exact HB.out | apply kL | apply kM | apply kE | refine kS ?_ GE323.out | refine kS ?_ GE332.out | refine kS ?_ GE340.out) | exact HB.out))) : w.heap.size ≤ gb341)); have n6_ := Aside0.mk ((by rw [hg]; exact (below_size (by repeat (first | (with_reducible first | exact HB.out | apply kL | apply kM | apply kE | refine kS ?_ GE323.out | refine kS ?_ GE332.out | refine kS ?_ GE340.out) | exact HB.out))) : w.heap.size ≤ gb341)); have n7_ := Aside0.mk ((by rw [hg]; exact Nat.ne_of_lt (blk_lt (g := gb323) (o := .cells #[.int .u8 a3_0, .int .i64 a3_1, .int .i64 a3_2, .int .i64 a3_3, .int .i64 a3_4, .int .u8 a3_5] 28 (0, 0)) (by (with_reducible repeat (first | refine kN ?_ _ | refine kD ?_ | refine kA ?_ _)); exact BK323.out)) : gb323 ≠ gb341)); have n8_ := Aside0.mk ((by rw [hg]; exact Nat.ne_of_gt (blk_lt (g := gb323) (o := .cells #[.int .u8 a3_0, .int .i64 a3_1, .int .i64 a3_2, .int .i64 a3_3, .int .i64 a3_4, .int .u8 a3_5] 28 (0, 0)) (by (with_reducible repeat (first | refine kN ?_ _ | refine kD ?_ | refine kA ?_ _)); exact BK323.out)) : gb341 ≠ gb323)); have n9_ := Aside0.mk ((by rw [hg]; exact Nat.ne_of_lt (blk_lt (g := gb332) (o := .cells #[.int .i64 t324, .int .i64 t325, .int .u8 t326, .int .i64 t327, .int .i64 t328, .int .i64 t329, .int .i64 t330, .bool t331] 25 (0, 0)) (by (with_reducible repeat (first | refine kN ?_ _ | refine kD ?_ | refine kA ?_ _)); exact BK332.out)) : gb332 ≠ gb341)); have n10_ := Aside0.mk ((by rw [hg]; exact Nat.ne_of_gt (blk_lt (g := gb332) (o := .cells #[.int .i64 t324, .int .i64 t325, .int .u8 t326, .int .i64 t327, .int .i64 t328, .int .i64 t329, .int .i64 t330, .bool t331] 25 (0, 0)) (by (with_reducible repeat (first | refine kN ?_ _ | refine kD ?_ | refine kA ?_ _)); exact BK332.out)) : gb341 ≠ gb332)); have n11_ := Aside0.mk ((by rw [hg]; exact Nat.ne_of_lt (blk_lt (g := gb340) (o := .cells #[.int .u8 t333, .int .i64 t334, .int .i64 t335, .int .i64 t336, .int .i64 t337, .int .u8 t338] 28 (0, 0)) (by (with_reducible repeat (first | refine kN ?_ _ | refine kD ?_ | refine kA ?_ _)); exact BK340.out)) : gb340 ≠ gb341)); have n12_ := Aside0.mk ((by rw [hg]; exact Nat.ne_of_gt (blk_lt (g := gb340) (o := .cells #[.int .u8 t333, .int .i64 t334, .int .i64 t335, .int .i64 t336, .int .i64 t337, .int .u8 t338] 28 (0, 0)) (by (with_reducible repeat (first | refine kN ?_ _ | refine kD ?_ | refine kA ?_ _)); exact BK340.out)) : gb341 ≠ gb340)); clear BK323; clear BK332; clear BK340; clear HB; have BK323 := n0_; have BK332 := n1_; have BK340 := n2_; have HB := n3_; have BK341 := n4_; have GW341 := n5_; have GE341 := n6_; have NB323_341 := n7_; have NB341_323 := n8_; have NB332_341 := n9_; have NB341_332 := n10_; have NB340_341 := n11_; have NB341_340 := n12_; clear n0_ n1_ n2_ n3_ n4_ n5_ n6_ n7_ n8_ n9_ n10_ n11_ n12_; clear hb hbox hg; have hnb88 := NB341_323.out; have hnc88 := NB323_341.out; have hnb89 := NB341_332.out; have hnc89 := NB332_341.out; have hnb90 := NB341_340.out; have hnc90 := NB340_341.out; have hcz91_0 : w87.cell? ⟨gb341, 0, none⟩ = some (.int .u8 0) := (kC BK341.out 0).trans rfl; have hcz91_1 : w87.cell? ⟨gb341, 1, none⟩ = some (.int .i64 0) := (kC BK341.out 1).trans rfl; have hcz91_2 : w87.cell? ⟨gb341, 2, none⟩ = some (.int .i64 0) := (kC BK341.out 2).trans rfl; have hcz91_3 : w87.cell? ⟨gb341, 3, none⟩ = some (.int .i64 0) := (kC BK341.out 3).trans rfl; have hcz91_4 : w87.cell? ⟨gb341, 4, none⟩ = some (.int .i64 0) := (kC BK341.out 4).trans rfl; have hcz91_5 : w87.cell? ⟨gb341, 5, none⟩ = some (.int .u8 0) := (kC BK341.out 5).trans rfl; have hfz91_0 := kF BK341.out 0; have hfz91_1 := kF BK341.out 1; have hfz91_2 := kF BK341.out 2; have hfz91_3 := kF BK341.out 3; have hfz91_4 := kF BK341.out 4; have hfz91_5 := kF BK341.out 5; have hnb92 := NB323_332.out; have hnc92 := NB332_323.out; have hcz93_0 : w87.cell? ⟨gb323, 0, none⟩ = some (.int .u8 a3_0) := (kC BK323.out 0).trans rfl; have hcz93_1 : w87.cell? ⟨gb323, 1, none⟩ = some (.int .i64 a3_1) := (kC BK323.out 1).trans rfl; have hcz93_2 : w87.cell? ⟨gb323, 2, none⟩ = some (.int .i64 a3_2) := (kC BK323.out 2).trans rfl; have hcz93_3 : w87.cell? ⟨gb323, 3, none⟩ = some (.int .i64 a3_3) := (kC BK323.out 3).trans rfl; have hcz93_4 : w87.cell? ⟨gb323, 4, none⟩ = some (.int .i64 a3_4) := (kC BK323.out 4).trans rfl; have hcz93_5 : w87.cell? ⟨gb323, 5, none⟩ = some (.int .u8 a3_5) := (kC BK323.out 5).trans rfl; have hfz93_0 := kF BK323.out 0; have hfz93_1 := kF BK323.out 1; have hfz93_2 := kF BK323.out 2; have hfz93_3 := kF BK323.out 3; have hfz93_4 := kF BK323.out 4; have hfz93_5 := kF BK323.out 5) | ((with_reducible refine gate_dst (N := 71) rfl ?_); refine wpList_load_row rfl 28 (.tmp 18) rfl gb341 rfl 28 #[.int .u8 t333, .int .i64 t334, .int .i64 t335, .int .i64 t336, .int .i64 t337, .int .u8 1] (0, 0) _ (by (with_reducible repeat (first | refine kN ?_ _ | refine kD ?_ | refine kA ?_ _)); refine kP (cs := #[.int .u8 t333, .int .i64 t334, .int .i64 t335, .int .i64 t336, .int .i64 t337, .int .u8 t338]) ?_ 5 _ rfl; (with_reducible repeat (first | refine kN ?_ _ | refine kD ?_ | refine kA ?_ _)); refine kP (cs := #[.int .u8 t333, .int .i64 t334, .int .i64 t335, .int .i64 t336, .int .i64 t337, .int .u8 0]) ?_ 5 _ rfl; (with_reducible repeat (first | refine kN ?_ _ | refine kD ?_ | refine kA ?_ _)); refine kP (cs := #[.int .u8 t333, .int .i64 t334, .int .i64 t335, .int .i64 t336, .int .i64 0, .int .u8 0]) ?_ 4 _ rfl; (with_reducible repeat (first | refine kN ?_ _ | refine kD ?_ | refine kA ?_ _)); refine kP (cs := #[.int .u8 t333, .int .i64 t334, .int .i64 t335, .int .i64 0, .int .i64 0, .int .u8 0]) ?_ 3 _ rfl; (with_reducible repeat (first | refine kN ?_ _ | refine kD ?_ | refine kA ?_ _)); refine kP (cs := #[.int .u8 t333, .int .i64 t334, .int .i64 0, .int .i64 0, .int .i64 0, .int .u8 0]) ?_ 2 _ rfl; (with_reducible repeat (first | refine kN ?_ _ | refine kD ?_ | refine kA ?_ _)); refine kP (cs := #[.int .u8 t333, .int .i64 0, .int .i64 0, .int .i64 0, .int .i64 0, .int .u8 0]) ?_ 1 _ rfl; (with_reducible repeat (first | refine kN ?_ _ | refine kD ?_ | refine kA ?_ _)); refine kP (cs := #[.int .u8 0, .int .i64 0, .int .i64 0, .int .i64 0, .int .i64 0, .int .u8 0]) ?_ 0 _ rfl; (with_reducible repeat (first | refine kN ?_ _ | refine kD ?_ | refine kA ?_ _)); exact BK341.out) Tryd.underlying28 rfl (by kernel_rfl) ?_) | ((with_reducible refine gate_store (t := 28) (p := 10) rfl ?_); refine store_event (t := 28) (p := 10) (v := ?vo_w94) (w1 := (((((((((((((w87.setCell ⟨gb341, 0, none⟩ (.int .u8 t333)).setCell ⟨gb341, 1, none⟩ (.int .i64 t334)).setCell ⟨gb341, 2, none⟩ (.int .i64 t335)).setCell ⟨gb341, 3, none⟩ (.int .i64 t336)).setCell ⟨gb341, 4, none⟩ (.int .i64 t337)).setCell ⟨gb341, 5, none⟩ (.int .u8 t338)).setCell ⟨gb341, 5, none⟩ (.int .u8 1)).setCell ⟨gb323, 0, none⟩ (.int .u8 t333)).setCell ⟨gb323, 1, none⟩ (.int .i64 t334)).setCell ⟨gb323, 2, none⟩ (.int .i64 t335)).setCell ⟨gb323, 3, none⟩ (.int .i64 t336)).setCell ⟨gb323, 4, none⟩ (.int .i64 t337)).setCell ⟨gb323, 5, none⟩ (.int .u8 1))) ?hg ?ho ?hn ?hr ?_; (case ho => rfl); (case hg => rfl); (case hn => rfl); (case hr => first | (go_simp; done) | (go_simp; rfl)); intro w94 hw; have n0_ : Aside0 (w94.heap[gb323]? = some (.cells #[.int .u8 t333, .int .i64 t334, .int .i64 t335, .int .i64 t336, .int .i64 t337, .int .u8 1] 28 (0, 0))) := ⟨(by rw [hw]; exact (by (with_reducible repeat (first | refine kN ?_ _ | refine kD ?_ | refine kA ?_ _)); refine kP (cs := #[.int .u8 t333, .int .i64 t334, .int .i64 t335, .int .i64 t336, .int .i64 t337, .int .u8 a3_5]) ?_ 5 _ rfl; (with_reducible repeat (first | refine kN ?_ _ | refine kD ?_ | refine kA ?_ _)); refine kP (cs := #[.int .u8 t333, .int .i64 t334, .int .i64 t335, .int .i64 t336, .int .i64 a3_4, .int .u8 a3_5]) ?_ 4 _ rfl; (with_reducible repeat (first | refine kN ?_ _ | refine kD ?_ | refine kA ?_ _)); refine kP (cs := #[.int .u8 t333, .int .i64 t334, .int .i64 t335, .int .i64 a3_3, .int .i64 a3_4, .int .u8 a3_5]) ?_ 3 _ rfl; (with_reducible repeat (first | refine kN ?_ _ | refine kD ?_ | refine kA ?_ _)); refine kP (cs := #[.int .u8 t333, .int .i64 t334, .int .i64 a3_2, .int .i64 a3_3, .int .i64 a3_4, .int .u8 a3_5]) ?_ 2 _ rfl; (with_reducible repeat (first | refine kN ?_ _ | refine kD ?_ | refine kA ?_ _)); refine kP (cs := #[.int .u8 t333, .int .i64 a3_1, .int .i64 a3_2, .int .i64 a3_3, .int .i64 a3_4, .int .u8 a3_5]) ?_ 1 _ rfl; (with_reducible repeat (first | refine kN ?_ _ | refine kD ?_ | refine kA ?_ _)); refine kP (cs := #[.int .u8 a3_0, .int .i64 a3_1, .int .i64 a3_2, .int .i64 a3_3, .int .i64 a3_4, .int .u8 a3_5]) ?_ 0 _ rfl; (with_reducible repeat (first | refine kN ?_ _ | refine kD ?_ | refine kA ?_ _)); refine kR ?_ NB323_341.out _; (with_reducible repeat (first | refine kN ?_ _ | refine kD ?_ | refine kA ?_ _)); refine kR ?_ NB323_341.out _; (with_reducible repeat (first | refine kN ?_ _ | refine kD ?_ | refine kA ?_ _)); refine kR ?_ NB323_341.out _; (with_reducible repeat (first | refine kN ?_ _ | refine kD ?_ | refine kA ?_ _)); refine kR ?_ NB323_341.out _; (with_reducible repeat (first | refine kN ?_ _ | refine kD ?_ | refine kA ?_ _)); refine kR ?_ NB323_341.out _; (with_reducible repeat (first | refine kN ?_ _ | refine kD ?_ | refine kA ?_ _)); refine kR ?_ NB323_341.out _; (with_reducible repeat (first | refine kN ?_ _ | refine kD ?_ | refine kA ?_ _)); refine kR ?_ NB323_341.out _; (with_reducible repeat (first | refine kN ?_ _ | refine kD ?_ | refine kA ?_ _)); exact BK323.out))⟩; have n1_ : Aside0 (w94.heap[gb332]? = some (.cells #[.int .i64 t324, .int .i64 t325, .int .u8 t326, .int .i64 t327, .int .i64 t328, .int .i64 t329, .int .i64 t330, .bool t331] 25 (0, 0))) := ⟨(by rw [hw]; exact (by (with_reducible repeat (first | refine kN ?_ _ | refine kD ?_ | refine kA ?_ _)); refine kR ?_ NB332_323.out _; (with_reducible repeat (first | refine kN ?_ _ | refine kD ?_ | refine kA ?_ _)); refine kR ?_ NB332_323.out _; (with_reducible repeat (first | refine kN ?_ _ | refine kD ?_ | refine kA ?_ _)); refine kR ?_ NB332_323.out _; (with_reducible repeat (first | refine kN ?_ _ | refine kD ?_ | refine kA ?_ _)); refine kR ?_ NB332_323.out _; (with_reducible repeat (first | refine kN ?_ _ | refine kD ?_ | refine kA ?_ _)); refine kR ?_ NB332_323.out _; (with_reducible repeat (first | refine kN ?_ _ | refine kD ?_ | refine kA ?_ _)); refine kR ?_ NB332_323.out _; (with_reducible repeat (first | refine kN ?_ _ | refine kD ?_ | refine kA ?_ _)); refine kR ?_ NB332_341.out _; (with_reducible repeat (first | refine kN ?_ _ | refine kD ?_ | refine kA ?_ _)); refine kR ?_ NB332_341.out _; (with_reducible repeat (first | refine kN ?_ _ | refine kD ?_ | refine kA ?_ _)); refine kR ?_ NB332_341.out _; (with_reducible repeat (first | refine kN ?_ _ | refine kD ?_ | refine kA ?_ _)); refine kR ?_ NB332_341.out _; (with_reducible repeat (first | refine kN ?_ _ | refine kD ?_ | refine kA ?_ _)); refine kR ?_ NB332_341.out _; (with_reducible repeat (first | refine kN ?_ _ | refine kD ?_ | refine kA ?_ _)); refine kR ?_ NB332_341.out _; (with_reducible repeat (first | refine kN ?_ _ | refine kD ?_ | refine kA ?_ _)); refine kR ?_ NB332_341.out _; (with_reducible repeat (first | refine kN ?_ _ | refine kD ?_ | refine kA ?_ _)); exact BK332.out))⟩; have n2_ : Aside0 (w94.heap[gb340]? = some (.cells #[.int .u8 t333, .int .i64 t334, .int .i64 t335, .int .i64 t336, .int .i64 t337, .int .u8 t338] 28 (0, 0))) := ⟨(by rw [hw]; exact (by (with_reducible repeat (first | refine kN ?_ _ | refine kD ?_ | refine kA ?_ _)); refine kR ?_ NB340_323.out _; (with_reducible repeat (first | refine kN ?_ _ | refine kD ?_ | refine kA ?_ _)); refine kR ?_ NB340_323.out _; (with_reducible repeat (first | refine kN ?_ _ | refine kD ?_ | refine kA ?_ _)); refine kR ?_ NB340_323.out _; (with_reducible repeat (first | refine kN ?_ _ | refine kD ?_ | refine kA ?_ _)); refine kR ?_ NB340_323.out _; (with_reducible repeat (first | refine kN ?_ _ | refine kD ?_ | refine kA ?_ _)); refine kR ?_ NB340_323.out _; (with_reducible repeat (first | refine kN ?_ _ | refine kD ?_ | refine kA ?_ _)); refine kR ?_ NB340_323.out _; (with_reducible repeat (first | refine kN ?_ _ | refine kD ?_ | refine kA ?_ _)); refine kR ?_ NB340_341.out _; (with_reducible repeat (first | refine kN ?_ _ | refine kD ?_ | refine kA ?_ _)); refine kR ?_ NB340_341.out _; (with_reducible repeat (first | refine kN ?_ _ | refine kD ?_ | refine kA ?_ _)); refine kR ?_ NB340_341.out _; (with_reducible repeat (first | refine kN ?_ _ | refine kD ?_ | refine kA ?_ _)); refine kR ?_ NB340_341.out _; (with_reducible repeat (first | refine kN ?_ _ | refine kD ?_ | refine kA ?_ _)); refine kR ?_ NB340_341.out _; (with_reducible repeat (first | refine kN ?_ _ | refine kD ?_ | refine kA ?_ _)); refine kR ?_ NB340_341.out _; (with_reducible repeat (first | refine kN ?_ _ | refine kD ?_ | refine kA ?_ _)); refine kR ?_ NB340_341.out _; (with_reducible repeat (first | refine kN ?_ _ | refine kD ?_ | refine kA ?_ _)); exact BK340.out))⟩; have n3_ : Aside0 (w94.heap[gb341]? = some (.cells #[.int .u8 t333, .int .i64 t334, .int .i64 t335, .int .i64 t336, .int .i64 t337, .int .u8 1] 28 (0, 0))) := ⟨(by rw [hw]; exact (by (with_reducible repeat (first | refine kN ?_ _ | refine kD ?_ | refine kA ?_ _)); refine kR ?_ NB341_323.out _; (with_reducible repeat (first | refine kN ?_ _ | refine kD ?_ | refine kA ?_ _)); refine kR ?_ NB341_323.out _; (with_reducible repeat (first | refine kN ?_ _ | refine kD ?_ | refine kA ?_ _)); refine kR ?_ NB341_323.out _; (with_reducible repeat (first | refine kN ?_ _ | refine kD ?_ | refine kA ?_ _)); refine kR ?_ NB341_323.out _; (with_reducible repeat (first | refine kN ?_ _ | refine kD ?_ | refine kA ?_ _)); refine kR ?_ NB341_323.out _; (with_reducible repeat (first | refine kN ?_ _ | refine kD ?_ | refine kA ?_ _)); refine kR ?_ NB341_323.out _; (with_reducible repeat (first | refine kN ?_ _ | refine kD ?_ | refine kA ?_ _)); refine kP (cs := #[.int .u8 t333, .int .i64 t334, .int .i64 t335, .int .i64 t336, .int .i64 t337, .int .u8 t338]) ?_ 5 _ rfl; (with_reducible repeat (first | refine kN ?_ _ | refine kD ?_ | refine kA ?_ _)); refine kP (cs := #[.int .u8 t333, .int .i64 t334, .int .i64 t335, .int .i64 t336, .int .i64 t337, .int .u8 0]) ?_ 5 _ rfl; (with_reducible repeat (first | refine kN ?_ _ | refine kD ?_ | refine kA ?_ _)); refine kP (cs := #[.int .u8 t333, .int .i64 t334, .int .i64 t335, .int .i64 t336, .int .i64 0, .int .u8 0]) ?_ 4 _ rfl; (with_reducible repeat (first | refine kN ?_ _ | refine kD ?_ | refine kA ?_ _)); refine kP (cs := #[.int .u8 t333, .int .i64 t334, .int .i64 t335, .int .i64 0, .int .i64 0, .int .u8 0]) ?_ 3 _ rfl; (with_reducible repeat (first | refine kN ?_ _ | refine kD ?_ | refine kA ?_ _)); refine kP (cs := #[.int .u8 t333, .int .i64 t334, .int .i64 0, .int .i64 0, .int .i64 0, .int .u8 0]) ?_ 2 _ rfl; (with_reducible repeat (first | refine kN ?_ _ | refine kD ?_ | refine kA ?_ _)); refine kP (cs := #[.int .u8 t333, .int .i64 0, .int .i64 0, .int .i64 0, .int .i64 0, .int .u8 0]) ?_ 1 _ rfl; (with_reducible repeat (first | refine kN ?_ _ | refine kD ?_ | refine kA ?_ _)); refine kP (cs := #[.int .u8 0, .int .i64 0, .int .i64 0, .int .i64 0, .int .i64 0, .int .u8 0]) ?_ 0 _ rfl; (with_reducible repeat (first | refine kN ?_ _ | refine kD ?_ | refine kA ?_ _)); exact BK341.out))⟩; have n4_ : Aside0 (Below w.heap.size w w94) := ⟨(by rw [hw]; exact (by repeat (first | (with_reducible first | exact HB.out | apply kL | apply kM | apply kE | refine kS ?_ GE323.out | refine kS ?_ GE332.out | refine kS ?_ GE340.out | refine kS ?_ GE341.out) | exact HB.out)))⟩; clear hw; clear BK323; clear BK332; clear BK340; clear BK341; clear HB; have BK323 := n0_; have BK332 := n1_; have BK340 := n2_; have BK341 := n3_; have HB := n4_; clear n0_ n1_ n2_ n3_ n4_))
          go_meet
          case rel => exact ⟨_, (t333), (t334), (t335), (t336), (t337), (1), H', ⟨by have := HJ9.out; first | omega | exact Nat.le_refl _⟩, ⟨by (with_reducible repeat (first | refine kN ?_ _ | refine kD ?_ | refine kA ?_ _)); exact BK323.out⟩, ⟨by (with_reducible repeat (first | refine kN ?_ _ | refine kD ?_ | refine kA ?_ _)); exact BK332.out⟩, ⟨by (with_reducible repeat (first | refine kN ?_ _ | refine kD ?_ | refine kA ?_ _)); exact BK340.out⟩, ⟨by repeat (first | (with_reducible first | exact HB.out | apply kL | apply kM | apply kE | refine kS ?_ GE323.out | refine kS ?_ GE332.out | refine kS ?_ GE340.out | refine kS ?_ GE341.out) | exact HB.out)⟩⟩
    ·replace c23 := Bool.eq_false_iff.mpr c23
     subst c23
     have H1 : (paybooklaw12_CycleOld.j1 kj9 a5 a6 t339 a3_0 a3_1 a3_2 a3_3 a3_4 a3_5 t324 t325 t326 t327 t328 t329 t330 t331 t333 t334 t335 t336 t337 t338) = some true := by rw [if_neg (show ¬ (false = true) by decide)] at H; try exact H
     clear H
     have H := H1
     clear H1
     have H' := Aside0.mk H
     clear H
     go_wp2
     go_meet
     case rel => exact ⟨_, (a3_0), (a3_1), (a3_2), (a3_3), (a3_4), (a3_5), H', ⟨by have := HJ9.out; first | omega | exact Nat.le_refl _⟩, ⟨by (with_reducible repeat (first | refine kN ?_ _ | refine kD ?_ | refine kA ?_ _)); exact BK323.out⟩, ⟨by (with_reducible repeat (first | refine kN ?_ _ | refine kD ?_ | refine kA ?_ _)); exact BK332.out⟩, ⟨by (with_reducible repeat (first | refine kN ?_ _ | refine kD ?_ | refine kA ?_ _)); exact BK340.out⟩, ⟨by repeat (first | (with_reducible first | exact HB.out | apply kL | apply kM | apply kE | refine kS ?_ GE323.out | refine kS ?_ GE332.out | refine kS ?_ GE340.out) | exact HB.out)⟩⟩
   case rest =>
    clear HC22
    try clear c1
    try clear c2
    try clear p2
    try clear c3
    try clear c4
    try clear c5
    try clear c6
    try clear p6
    try clear c7
    try clear c8
    try clear c9
    try clear c12
    try clear c13
    try clear c14
    try clear c18
    try clear c19
    try clear c21
    try clear c21b0
    try clear c23
    try clear c24
    try clear c24b0
    try clear c24b1
    try clear c25
    try clear c26
    try clear c29
    try clear c30
    try clear c31
    try clear c33
    try clear c36
    try clear c36b0
    try clear c36b1
    try clear c37
    try clear c38
    try clear c41
    try clear c42
    try clear c43
    try clear c45
    try clear c48
    try clear c48b0
    try clear c48b1
    try clear c49
    try clear c50
    try clear c53
    try clear c54
    try clear c55
    try clear c57
    try clear c60
    try clear c60b0
    try clear c60b1
    try clear c61
    try clear c62
    try clear p64
    try clear c65
    try clear c66
    try clear c67
    try clear c69
    try clear c72
    try clear c72b0
    try clear c72b1
    try clear c73
    try clear c74
    try clear c77
    try clear c78
    try clear c79
    try clear c81
    try clear c84
    try clear c85
    try clear c88
    try clear c89
    try clear c90
    try clear c92
    try clear hcz15_0
    try clear hcz15_1
    try clear hcz15_2
    try clear hcz15_3
    try clear hcz15_4
    try clear hcz15_5
    try clear hcz15_6
    try clear hcz15_7
    try clear hcz20_0
    try clear hcz20_1
    try clear hcz20_2
    try clear hcz20_3
    try clear hcz20_4
    try clear hcz20_5
    try clear hcz27_0
    try clear hcz27_1
    try clear hcz27_2
    try clear hcz27_3
    try clear hcz27_4
    try clear hcz27_5
    try clear hcz32_0
    try clear hcz32_1
    try clear hcz32_2
    try clear hcz32_3
    try clear hcz32_4
    try clear hcz32_5
    try clear hcz34_0
    try clear hcz34_1
    try clear hcz34_2
    try clear hcz34_3
    try clear hcz34_4
    try clear hcz34_5
    try clear hcz39_0
    try clear hcz39_1
    try clear hcz39_2
    try clear hcz39_3
    try clear hcz39_4
    try clear hcz39_5
    try clear hcz44_0
    try clear hcz44_1
    try clear hcz44_2
    try clear hcz44_3
    try clear hcz44_4
    try clear hcz44_5
    try clear hcz46_0
    try clear hcz46_1
    try clear hcz46_2
    try clear hcz46_3
    try clear hcz46_4
    try clear hcz46_5
    try clear hcz51_0
    try clear hcz51_1
    try clear hcz51_2
    try clear hcz51_3
    try clear hcz51_4
    try clear hcz51_5
    try clear hcz56_0
    try clear hcz56_1
    try clear hcz56_2
    try clear hcz56_3
    try clear hcz56_4
    try clear hcz56_5
    try clear hcz58_0
    try clear hcz58_1
    try clear hcz58_2
    try clear hcz58_3
    try clear hcz58_4
    try clear hcz58_5
    try clear hcz63_0
    try clear hcz63_1
    try clear hcz63_2
    try clear hcz63_3
    try clear hcz63_4
    try clear hcz63_5
    try clear hcz68_0
    try clear hcz68_1
    try clear hcz68_2
    try clear hcz68_3
    try clear hcz68_4
    try clear hcz68_5
    try clear hcz70_0
    try clear hcz70_1
    try clear hcz70_2
    try clear hcz70_3
    try clear hcz70_4
    try clear hcz70_5
    try clear hcz75_0
    try clear hcz75_1
    try clear hcz75_2
    try clear hcz75_3
    try clear hcz75_4
    try clear hcz75_5
    try clear hcz80_0
    try clear hcz80_1
    try clear hcz80_2
    try clear hcz80_3
    try clear hcz80_4
    try clear hcz80_5
    try clear hcz82_0
    try clear hcz82_1
    try clear hcz82_2
    try clear hcz82_3
    try clear hcz82_4
    try clear hcz82_5
    try clear hcz86_0
    try clear hcz86_1
    try clear hcz86_2
    try clear hcz86_3
    try clear hcz86_4
    try clear hcz86_5
    try clear hcz91_0
    try clear hcz91_1
    try clear hcz91_2
    try clear hcz91_3
    try clear hcz91_4
    try clear hcz91_5
    try clear hcz93_0
    try clear hcz93_1
    try clear hcz93_2
    try clear hcz93_3
    try clear hcz93_4
    try clear hcz93_5
    try clear hfz15_0
    try clear hfz15_1
    try clear hfz15_2
    try clear hfz15_3
    try clear hfz15_4
    try clear hfz15_5
    try clear hfz15_6
    try clear hfz15_7
    try clear hfz20_0
    try clear hfz20_1
    try clear hfz20_2
    try clear hfz20_3
    try clear hfz20_4
    try clear hfz20_5
    try clear hfz27_0
    try clear hfz27_1
    try clear hfz27_2
    try clear hfz27_3
    try clear hfz27_4
    try clear hfz27_5
    try clear hfz32_0
    try clear hfz32_1
    try clear hfz32_2
    try clear hfz32_3
    try clear hfz32_4
    try clear hfz32_5
    try clear hfz34_0
    try clear hfz34_1
    try clear hfz34_2
    try clear hfz34_3
    try clear hfz34_4
    try clear hfz34_5
    try clear hfz39_0
    try clear hfz39_1
    try clear hfz39_2
    try clear hfz39_3
    try clear hfz39_4
    try clear hfz39_5
    try clear hfz44_0
    try clear hfz44_1
    try clear hfz44_2
    try clear hfz44_3
    try clear hfz44_4
    try clear hfz44_5
    try clear hfz46_0
    try clear hfz46_1
    try clear hfz46_2
    try clear hfz46_3
    try clear hfz46_4
    try clear hfz46_5
    try clear hfz51_0
    try clear hfz51_1
    try clear hfz51_2
    try clear hfz51_3
    try clear hfz51_4
    try clear hfz51_5
    try clear hfz56_0
    try clear hfz56_1
    try clear hfz56_2
    try clear hfz56_3
    try clear hfz56_4
    try clear hfz56_5
    try clear hfz58_0
    try clear hfz58_1
    try clear hfz58_2
    try clear hfz58_3
    try clear hfz58_4
    try clear hfz58_5
    try clear hfz63_0
    try clear hfz63_1
    try clear hfz63_2
    try clear hfz63_3
    try clear hfz63_4
    try clear hfz63_5
    try clear hfz68_0
    try clear hfz68_1
    try clear hfz68_2
    try clear hfz68_3
    try clear hfz68_4
    try clear hfz68_5
    try clear hfz70_0
    try clear hfz70_1
    try clear hfz70_2
    try clear hfz70_3
    try clear hfz70_4
    try clear hfz70_5
    try clear hfz75_0
    try clear hfz75_1
    try clear hfz75_2
    try clear hfz75_3
    try clear hfz75_4
    try clear hfz75_5
    try clear hfz80_0
    try clear hfz80_1
    try clear hfz80_2
    try clear hfz80_3
    try clear hfz80_4
    try clear hfz80_5
    try clear hfz82_0
    try clear hfz82_1
    try clear hfz82_2
    try clear hfz82_3
    try clear hfz82_4
    try clear hfz82_5
    try clear hfz86_0
    try clear hfz86_1
    try clear hfz86_2
    try clear hfz86_3
    try clear hfz86_4
    try clear hfz86_5
    try clear hfz91_0
    try clear hfz91_1
    try clear hfz91_2
    try clear hfz91_3
    try clear hfz91_4
    try clear hfz91_5
    try clear hfz93_0
    try clear hfz93_1
    try clear hfz93_2
    try clear hfz93_3
    try clear hfz93_4
    try clear hfz93_5
    try clear p2
    obtain ⟨kq, x324000_21, x324001_21, x324002_21, x324003_21, x324004_21, x324005_21, HA, HJ21, BK323, BK332, BK340, HB⟩ := hcut
    cases kq with
    | zero => exact absurd HA.out (by simp [paybooklaw12_CycleOld.j1])
    | succ kj21 =>
     have H := HA.out
     clear HA
     simp only [paybooklaw12_CycleOld.j1] at H
     replace H := Option.bind_eq_some_iff.mp H
     obtain ⟨⟨t343, t344, t345, t346, t347, t348, t349, t350, t351⟩, A950, H⟩ := H
     replace H : (if t339 = true then (if (x324000_21 == t333 && (x324001_21 == t334 && (x324002_21 == t335 && (x324003_21 == t336 && (x324004_21 == t337 && (0 == t338)))))) = true then (paybooklaw12_CycleOld.j2 kj21 t351 (x324005_21 != 0) t324 t325 t326 t327 t328 t329 t330 t331 t343 t344 t345 t346 t347 t348 t349 t350) else (paybooklaw12_CycleOld.j2 kj21 t351 false t324 t325 t326 t327 t328 t329 t330 t331 t343 t344 t345 t346 t347 t348 t349 t350)) else (paybooklaw12_CycleOld.j2 kj21 t351 false t324 t325 t326 t327 t328 t329 t330 t331 t343 t344 t345 t346 t347 t348 t349 t350)) = some true := H
     have A95 := Aside0.mk A950
     clear A950
     have HC96 := Aside0.mk H
     clear H
     have hnb97 := NB323_332.out
     have hnc97 := NB332_323.out
     have hnb98 := NB323_340.out
     have hnc98 := NB340_323.out
     have hcz99_0 : wc.cell? ⟨gb323, 0, none⟩ = some (.int .u8 x324000_21) := (kC BK323.out 0).trans rfl
     have hcz99_1 : wc.cell? ⟨gb323, 1, none⟩ = some (.int .i64 x324001_21) := (kC BK323.out 1).trans rfl
     have hcz99_2 : wc.cell? ⟨gb323, 2, none⟩ = some (.int .i64 x324002_21) := (kC BK323.out 2).trans rfl
     have hcz99_3 : wc.cell? ⟨gb323, 3, none⟩ = some (.int .i64 x324003_21) := (kC BK323.out 3).trans rfl
     have hcz99_4 : wc.cell? ⟨gb323, 4, none⟩ = some (.int .i64 x324004_21) := (kC BK323.out 4).trans rfl
     have hcz99_5 : wc.cell? ⟨gb323, 5, none⟩ = some (.int .u8 x324005_21) := (kC BK323.out 5).trans rfl
     have hfz99_0 := kF BK323.out 0
     have hfz99_1 := kF BK323.out 1
     have hfz99_2 := kF BK323.out 2
     have hfz99_3 := kF BK323.out 3
     have hfz99_4 := kF BK323.out 4
     have hfz99_5 := kF BK323.out 5
     go_upto_region 21 with (first | ((with_reducible refine gate_dst (N := 19) rfl ?_); refine box_event ?hg (N := 19) ?hd (cs := #[.int .u8 0, .int .i64 0, .int .i64 0, .int .i64 0, .int .i64 0, .int .u8 0]) (t := 28) ?hr ?_; (case hd => rfl); (case hg => rfl); (case hr => first | (go_simp; done) | (go_simp; rfl)); intro gb342 hg w100 hbox hb; have n0_ := Aside0.mk (blk_below (g := gb323) (o := .cells #[.int .u8 x324000_21, .int .i64 x324001_21, .int .i64 x324002_21, .int .i64 x324003_21, .int .i64 x324004_21, .int .u8 x324005_21] 28 (0, 0)) (by (with_reducible repeat (first | refine kN ?_ _ | refine kD ?_ | refine kA ?_ _)); exact BK323.out) hb); have n1_ := Aside0.mk (blk_below (g := gb332) (o := .cells #[.int .i64 t324, .int .i64 t325, .int .u8 t326, .int .i64 t327, .int .i64 t328, .int .i64 t329, .int .i64 t330, .bool t331] 25 (0, 0)) (by (with_reducible repeat (first | refine kN ?_ _ | refine kD ?_ | refine kA ?_ _)); exact BK332.out) hb); have n2_ := Aside0.mk (blk_below (g := gb340) (o := .cells #[.int .u8 t333, .int .i64 t334, .int .i64 t335, .int .i64 t336, .int .i64 t337, .int .u8 t338] 28 (0, 0)) (by (with_reducible repeat (first | refine kN ?_ _ | refine kD ?_ | refine kA ?_ _)); exact BK340.out) hb); have n3_ := Aside0.mk (below_step (by repeat (first | (with_reducible first | exact HB.out | apply kL | apply kM | apply kE | refine kS ?_ GE323.out | refine kS ?_ GE332.out | refine kS ?_ GE340.out) | exact HB.out)) hb); have n4_ := Aside0.mk (hbox); have n5_ := Aside0.mk ((by rw [hg]; exact (below_size (by repeat (first | (with_reducible first | exact HB.out | apply kL | apply kM | apply kE | refine kS ?_ GE323.out | refine kS ?_ GE332.out | refine kS ?_ GE340.out) | exact HB.out))) : w.heap.size ≤ gb342)); have n6_ := Aside0.mk ((by rw [hg]; exact (below_size (by repeat (first | (with_reducible first | exact HB.out | apply kL | apply kM | apply kE | refine kS ?_ GE323.out | refine kS ?_ GE332.out | refine kS ?_ GE340.out) | exact HB.out))) : w.heap.size ≤ gb342)); have n7_ := Aside0.mk ((by rw [hg]; exact Nat.ne_of_lt (blk_lt (g := gb323) (o := .cells #[.int .u8 x324000_21, .int .i64 x324001_21, .int .i64 x324002_21, .int .i64 x324003_21, .int .i64 x324004_21, .int .u8 x324005_21] 28 (0, 0)) (by (with_reducible repeat (first | refine kN ?_ _ | refine kD ?_ | refine kA ?_ _)); exact BK323.out)) : gb323 ≠ gb342)); have n8_ := Aside0.mk ((by rw [hg]; exact Nat.ne_of_gt (blk_lt (g := gb323) (o := .cells #[.int .u8 x324000_21, .int .i64 x324001_21, .int .i64 x324002_21, .int .i64 x324003_21, .int .i64 x324004_21, .int .u8 x324005_21] 28 (0, 0)) (by (with_reducible repeat (first | refine kN ?_ _ | refine kD ?_ | refine kA ?_ _)); exact BK323.out)) : gb342 ≠ gb323)); have n9_ := Aside0.mk ((by rw [hg]; exact Nat.ne_of_lt (blk_lt (g := gb332) (o := .cells #[.int .i64 t324, .int .i64 t325, .int .u8 t326, .int .i64 t327, .int .i64 t328, .int .i64 t329, .int .i64 t330, .bool t331] 25 (0, 0)) (by (with_reducible repeat (first | refine kN ?_ _ | refine kD ?_ | refine kA ?_ _)); exact BK332.out)) : gb332 ≠ gb342)); have n10_ := Aside0.mk ((by rw [hg]; exact Nat.ne_of_gt (blk_lt (g := gb332) (o := .cells #[.int .i64 t324, .int .i64 t325, .int .u8 t326, .int .i64 t327, .int .i64 t328, .int .i64 t329, .int .i64 t330, .bool t331] 25 (0, 0)) (by (with_reducible repeat (first | refine kN ?_ _ | refine kD ?_ | refine kA ?_ _)); exact BK332.out)) : gb342 ≠ gb332)); have n11_ := Aside0.mk ((by rw [hg]; exact Nat.ne_of_lt (blk_lt (g := gb340) (o := .cells #[.int .u8 t333, .int .i64 t334, .int .i64 t335, .int .i64 t336, .int .i64 t337, .int .u8 t338] 28 (0, 0)) (by (with_reducible repeat (first | refine kN ?_ _ | refine kD ?_ | refine kA ?_ _)); exact BK340.out)) : gb340 ≠ gb342)); have n12_ := Aside0.mk ((by rw [hg]; exact Nat.ne_of_gt (blk_lt (g := gb340) (o := .cells #[.int .u8 t333, .int .i64 t334, .int .i64 t335, .int .i64 t336, .int .i64 t337, .int .u8 t338] 28 (0, 0)) (by (with_reducible repeat (first | refine kN ?_ _ | refine kD ?_ | refine kA ?_ _)); exact BK340.out)) : gb342 ≠ gb340)); clear BK323; clear BK332; clear BK340; clear HB; have BK323 := n0_; have BK332 := n1_; have BK340 := n2_; have HB := n3_; have BK342 := n4_; have GW342 := n5_; have GE342 := n6_; have NB323_342 := n7_; have NB342_323 := n8_; have NB332_342 := n9_; have NB342_332 := n10_; have NB340_342 := n11_; have NB342_340 := n12_; clear n0_ n1_ n2_ n3_ n4_ n5_ n6_ n7_ n8_ n9_ n10_ n11_ n12_; clear hb hbox hg; have hnb101 := NB342_323.out; have hnc101 := NB323_342.out; have hnb102 := NB342_332.out; have hnc102 := NB332_342.out; have hnb103 := NB342_340.out; have hnc103 := NB340_342.out; have hcz104_0 : w100.cell? ⟨gb342, 0, none⟩ = some (.int .u8 0) := (kC BK342.out 0).trans rfl; have hcz104_1 : w100.cell? ⟨gb342, 1, none⟩ = some (.int .i64 0) := (kC BK342.out 1).trans rfl; have hcz104_2 : w100.cell? ⟨gb342, 2, none⟩ = some (.int .i64 0) := (kC BK342.out 2).trans rfl; have hcz104_3 : w100.cell? ⟨gb342, 3, none⟩ = some (.int .i64 0) := (kC BK342.out 3).trans rfl; have hcz104_4 : w100.cell? ⟨gb342, 4, none⟩ = some (.int .i64 0) := (kC BK342.out 4).trans rfl; have hcz104_5 : w100.cell? ⟨gb342, 5, none⟩ = some (.int .u8 0) := (kC BK342.out 5).trans rfl; have hfz104_0 := kF BK342.out 0; have hfz104_1 := kF BK342.out 1; have hfz104_2 := kF BK342.out 2; have hfz104_3 := kF BK342.out 3; have hfz104_4 := kF BK342.out 4; have hfz104_5 := kF BK342.out 5; have hnb105 := NB332_340.out; have hnc105 := NB340_332.out; have hcz106_0 : w100.cell? ⟨gb332, 0, none⟩ = some (.int .i64 t324) := (kC BK332.out 0).trans rfl; have hcz106_1 : w100.cell? ⟨gb332, 1, none⟩ = some (.int .i64 t325) := (kC BK332.out 1).trans rfl; have hcz106_2 : w100.cell? ⟨gb332, 2, none⟩ = some (.int .u8 t326) := (kC BK332.out 2).trans rfl; have hcz106_3 : w100.cell? ⟨gb332, 3, none⟩ = some (.int .i64 t327) := (kC BK332.out 3).trans rfl; have hcz106_4 : w100.cell? ⟨gb332, 4, none⟩ = some (.int .i64 t328) := (kC BK332.out 4).trans rfl; have hcz106_5 : w100.cell? ⟨gb332, 5, none⟩ = some (.int .i64 t329) := (kC BK332.out 5).trans rfl; have hcz106_6 : w100.cell? ⟨gb332, 6, none⟩ = some (.int .i64 t330) := (kC BK332.out 6).trans rfl; have hcz106_7 : w100.cell? ⟨gb332, 7, none⟩ = some (.bool t331) := (kC BK332.out 7).trans rfl; have hfz106_0 := kF BK332.out 0; have hfz106_1 := kF BK332.out 1; have hfz106_2 := kF BK332.out 2; have hfz106_3 := kF BK332.out 3; have hfz106_4 := kF BK332.out 4; have hfz106_5 := kF BK332.out 5; have hfz106_6 := kF BK332.out 6; have hfz106_7 := kF BK332.out 7; have hcz107_0 : w100.cell? ⟨gb323, 0, none⟩ = some (.int .u8 x324000_21) := (kC BK323.out 0).trans rfl; have hcz107_1 : w100.cell? ⟨gb323, 1, none⟩ = some (.int .i64 x324001_21) := (kC BK323.out 1).trans rfl; have hcz107_2 : w100.cell? ⟨gb323, 2, none⟩ = some (.int .i64 x324002_21) := (kC BK323.out 2).trans rfl; have hcz107_3 : w100.cell? ⟨gb323, 3, none⟩ = some (.int .i64 x324003_21) := (kC BK323.out 3).trans rfl; have hcz107_4 : w100.cell? ⟨gb323, 4, none⟩ = some (.int .i64 x324004_21) := (kC BK323.out 4).trans rfl; have hcz107_5 : w100.cell? ⟨gb323, 5, none⟩ = some (.int .u8 x324005_21) := (kC BK323.out 5).trans rfl; have hfz107_0 := kF BK323.out 0; have hfz107_1 := kF BK323.out 1; have hfz107_2 := kF BK323.out 2; have hfz107_3 := kF BK323.out 3; have hfz107_4 := kF BK323.out 4; have hfz107_5 := kF BK323.out 5) | ((with_reducible refine gate_dst (N := 75) rfl ?_); refine wpList_load_row rfl 25 (.tmp 15) rfl gb332 rfl 25 #[.int .i64 t324, .int .i64 t325, .int .u8 t326, .int .i64 t327, .int .i64 t328, .int .i64 t329, .int .i64 t330, .bool t331] (0, 0) _ (by (with_reducible repeat (first | refine kN ?_ _ | refine kD ?_ | refine kA ?_ _)); refine kR ?_ NB332_342.out _; (with_reducible repeat (first | refine kN ?_ _ | refine kD ?_ | refine kA ?_ _)); refine kR ?_ NB332_342.out _; (with_reducible repeat (first | refine kN ?_ _ | refine kD ?_ | refine kA ?_ _)); refine kR ?_ NB332_342.out _; (with_reducible repeat (first | refine kN ?_ _ | refine kD ?_ | refine kA ?_ _)); refine kR ?_ NB332_342.out _; (with_reducible repeat (first | refine kN ?_ _ | refine kD ?_ | refine kA ?_ _)); refine kR ?_ NB332_342.out _; (with_reducible repeat (first | refine kN ?_ _ | refine kD ?_ | refine kA ?_ _)); refine kR ?_ NB332_342.out _; (with_reducible repeat (first | refine kN ?_ _ | refine kD ?_ | refine kA ?_ _)); refine kR ?_ NB332_342.out _; (with_reducible repeat (first | refine kN ?_ _ | refine kD ?_ | refine kA ?_ _)); exact BK332.out) Tryd.underlying25 rfl (by kernel_rfl) ?_) | ((with_reducible refine gate_dst (N := 76) rfl ?_); refine wpList_load_row rfl 28 (.tmp 10) rfl gb323 rfl 28 #[.int .u8 x324000_21, .int .i64 x324001_21, .int .i64 x324002_21, .int .i64 x324003_21, .int .i64 x324004_21, .int .u8 x324005_21] (0, 0) _ (by (with_reducible repeat (first | refine kN ?_ _ | refine kD ?_ | refine kA ?_ _)); refine kR ?_ NB323_342.out _; (with_reducible repeat (first | refine kN ?_ _ | refine kD ?_ | refine kA ?_ _)); refine kR ?_ NB323_342.out _; (with_reducible repeat (first | refine kN ?_ _ | refine kD ?_ | refine kA ?_ _)); refine kR ?_ NB323_342.out _; (with_reducible repeat (first | refine kN ?_ _ | refine kD ?_ | refine kA ?_ _)); refine kR ?_ NB323_342.out _; (with_reducible repeat (first | refine kN ?_ _ | refine kD ?_ | refine kA ?_ _)); refine kR ?_ NB323_342.out _; (with_reducible repeat (first | refine kN ?_ _ | refine kD ?_ | refine kA ?_ _)); refine kR ?_ NB323_342.out _; (with_reducible repeat (first | refine kN ?_ _ | refine kD ?_ | refine kA ?_ _)); refine kR ?_ NB323_342.out _; (with_reducible repeat (first | refine kN ?_ _ | refine kD ?_ | refine kA ?_ _)); exact BK323.out) Tryd.underlying28 rfl (by kernel_rfl) ?_) | ((with_reducible refine gate_callee (f := 18) rfl ?_); refine goesL_ (some 80) rfl rfl Tryd.func18 (by kernel_rfl) rfl #[.int .i64 2, .agg #[.int .i64 t324, .int .i64 t325, .int .u8 t326, .int .i64 t327, .int .i64 t328, .int .i64 t329, .int .i64 t330, .bool t331], .agg #[.int .u8 x324000_21, .int .i64 x324001_21, .int .i64 x324002_21, .int .i64 x324003_21, .int .i64 x324004_21, .int .u8 x324005_21], .int .i64 (wrap64 (a5)), .bool a6] rfl (by (try simp only [List.map_toArray, List.map_cons, List.map_nil]); first | done | rfl | (simp only [List.length_drop, List.length_take]; rfl)) ?_; (with_reducible refine (cycle_Hear.calls kj21 2 t324 t325 t326 t327 t328 t329 t330 t331 x324000_21 x324001_21 x324002_21 x324003_21 x324004_21 x324005_21 (wrap64 (a5)) a6 t343 t344 t345 t346 t347 t348 t349 t350 t351 _ ?side1 A95.out).mono ?_); (case side1 => exact Kd.C_below HRG0.out (by repeat (first | (with_reducible first | exact HB.out | apply kL | apply kM | apply kE | refine kS ?_ GE323.out | refine kS ?_ GE332.out | refine kS ?_ GE340.out | refine kS ?_ GE342.out) | exact HB.out))); rintro e w108 ⟨rfl, hb⟩; refine ⟨_, rfl, ?_⟩; have n0_ := Aside0.mk (blk_below (g := gb323) (o := .cells #[.int .u8 x324000_21, .int .i64 x324001_21, .int .i64 x324002_21, .int .i64 x324003_21, .int .i64 x324004_21, .int .u8 x324005_21] 28 (0, 0)) (by (with_reducible repeat (first | refine kN ?_ _ | refine kD ?_ | refine kA ?_ _)); refine kR ?_ NB323_342.out _; (with_reducible repeat (first | refine kN ?_ _ | refine kD ?_ | refine kA ?_ _)); refine kR ?_ NB323_342.out _; (with_reducible repeat (first | refine kN ?_ _ | refine kD ?_ | refine kA ?_ _)); refine kR ?_ NB323_342.out _; (with_reducible repeat (first | refine kN ?_ _ | refine kD ?_ | refine kA ?_ _)); refine kR ?_ NB323_342.out _; (with_reducible repeat (first | refine kN ?_ _ | refine kD ?_ | refine kA ?_ _)); refine kR ?_ NB323_342.out _; (with_reducible repeat (first | refine kN ?_ _ | refine kD ?_ | refine kA ?_ _)); refine kR ?_ NB323_342.out _; (with_reducible repeat (first | refine kN ?_ _ | refine kD ?_ | refine kA ?_ _)); refine kR ?_ NB323_342.out _; (with_reducible repeat (first | refine kN ?_ _ | refine kD ?_ | refine kA ?_ _)); exact BK323.out) hb); have n1_ := Aside0.mk (blk_below (g := gb332) (o := .cells #[.int .i64 t324, .int .i64 t325, .int .u8 t326, .int .i64 t327, .int .i64 t328, .int .i64 t329, .int .i64 t330, .bool t331] 25 (0, 0)) (by (with_reducible repeat (first | refine kN ?_ _ | refine kD ?_ | refine kA ?_ _)); refine kR ?_ NB332_342.out _; (with_reducible repeat (first | refine kN ?_ _ | refine kD ?_ | refine kA ?_ _)); refine kR ?_ NB332_342.out _; (with_reducible repeat (first | refine kN ?_ _ | refine kD ?_ | refine kA ?_ _)); refine kR ?_ NB332_342.out _; (with_reducible repeat (first | refine kN ?_ _ | refine kD ?_ | refine kA ?_ _)); refine kR ?_ NB332_342.out _; (with_reducible repeat (first | refine kN ?_ _ | refine kD ?_ | refine kA ?_ _)); refine kR ?_ NB332_342.out _; (with_reducible repeat (first | refine kN ?_ _ | refine kD ?_ | refine kA ?_ _)); refine kR ?_ NB332_342.out _; (with_reducible repeat (first | refine kN ?_ _ | refine kD ?_ | refine kA ?_ _)); refine kR ?_ NB332_342.out _; (with_reducible repeat (first | refine kN ?_ _ | refine kD ?_ | refine kA ?_ _)); exact BK332.out) hb); have n2_ := Aside0.mk (blk_below (g := gb340) (o := .cells #[.int .u8 t333, .int .i64 t334, .int .i64 t335, .int .i64 t336, .int .i64 t337, .int .u8 t338] 28 (0, 0)) (by (with_reducible repeat (first | refine kN ?_ _ | refine kD ?_ | refine kA ?_ _)); refine kR ?_ NB340_342.out _; (with_reducible repeat (first | refine kN ?_ _ | refine kD ?_ | refine kA ?_ _)); refine kR ?_ NB340_342.out _; (with_reducible repeat (first | refine kN ?_ _ | refine kD ?_ | refine kA ?_ _)); refine kR ?_ NB340_342.out _; (with_reducible repeat (first | refine kN ?_ _ | refine kD ?_ | refine kA ?_ _)); refine kR ?_ NB340_342.out _; (with_reducible repeat (first | refine kN ?_ _ | refine kD ?_ | refine kA ?_ _)); refine kR ?_ NB340_342.out _; (with_reducible repeat (first | refine kN ?_ _ | refine kD ?_ | refine kA ?_ _)); refine kR ?_ NB340_342.out _; (with_reducible repeat (first | refine kN ?_ _ | refine kD ?_ | refine kA ?_ _)); refine kR ?_ NB340_342.out _; (with_reducible repeat (first | refine kN ?_ _ | refine kD ?_ | refine kA ?_ _)); exact BK340.out) hb); have n3_ := Aside0.mk (blk_below (g := gb342) (o := .cells #[.int .u8 x324000_21, .int .i64 x324001_21, .int .i64 x324002_21, .int .i64 x324003_21, .int .i64 x324004_21, .int .u8 0] 28 (0, 0)) (by (with_reducible repeat (first | refine kN ?_ _ | refine kD ?_ | refine kA ?_ _)); refine kP (cs := #[.int .u8 x324000_21, .int .i64 x324001_21, .int .i64 x324002_21, .int .i64 x324003_21, .int .i64 x324004_21, .int .u8 x324005_21]) ?_ 5 _ rfl; (with_reducible repeat (first | refine kN ?_ _ | refine kD ?_ | refine kA ?_ _)); refine kP (cs := #[.int .u8 x324000_21, .int .i64 x324001_21, .int .i64 x324002_21, .int .i64 x324003_21, .int .i64 x324004_21, .int .u8 0]) ?_ 5 _ rfl; (with_reducible repeat (first | refine kN ?_ _ | refine kD ?_ | refine kA ?_ _)); refine kP (cs := #[.int .u8 x324000_21, .int .i64 x324001_21, .int .i64 x324002_21, .int .i64 x324003_21, .int .i64 0, .int .u8 0]) ?_ 4 _ rfl; (with_reducible repeat (first | refine kN ?_ _ | refine kD ?_ | refine kA ?_ _)); refine kP (cs := #[.int .u8 x324000_21, .int .i64 x324001_21, .int .i64 x324002_21, .int .i64 0, .int .i64 0, .int .u8 0]) ?_ 3 _ rfl; (with_reducible repeat (first | refine kN ?_ _ | refine kD ?_ | refine kA ?_ _)); refine kP (cs := #[.int .u8 x324000_21, .int .i64 x324001_21, .int .i64 0, .int .i64 0, .int .i64 0, .int .u8 0]) ?_ 2 _ rfl; (with_reducible repeat (first | refine kN ?_ _ | refine kD ?_ | refine kA ?_ _)); refine kP (cs := #[.int .u8 x324000_21, .int .i64 0, .int .i64 0, .int .i64 0, .int .i64 0, .int .u8 0]) ?_ 1 _ rfl; (with_reducible repeat (first | refine kN ?_ _ | refine kD ?_ | refine kA ?_ _)); refine kP (cs := #[.int .u8 0, .int .i64 0, .int .i64 0, .int .i64 0, .int .i64 0, .int .u8 0]) ?_ 0 _ rfl; (with_reducible repeat (first | refine kN ?_ _ | refine kD ?_ | refine kA ?_ _)); exact BK342.out) hb); have n4_ := Aside0.mk (below_step (by repeat (first | (with_reducible first | exact HB.out | apply kL | apply kM | apply kE | refine kS ?_ GE323.out | refine kS ?_ GE332.out | refine kS ?_ GE340.out | refine kS ?_ GE342.out) | exact HB.out)) hb); clear BK323; clear BK332; clear BK340; clear BK342; clear HB; have BK323 := n0_; have BK332 := n1_; have BK340 := n2_; have BK342 := n3_; have HB := n4_; clear n0_ n1_ n2_ n3_ n4_; (try clear hb); (try clear hb2); (try clear hk); (try clear hi)) | ((with_reducible refine gate_dst (N := 20) rfl ?_); refine box_event ?hg (N := 20) ?hd (cs := #[.int .i64 0, .int .i64 0, .int .u8 0, .int .i64 0, .int .i64 0, .int .i64 0, .int .i64 0, .bool false]) (t := 25) ?hr ?_; (case hd => rfl); (case hg => rfl); (case hr => first | (go_simp; done) | (go_simp; rfl)); intro gb352 hg w109 hbox hb; have n0_ := Aside0.mk (blk_below (g := gb323) (o := .cells #[.int .u8 x324000_21, .int .i64 x324001_21, .int .i64 x324002_21, .int .i64 x324003_21, .int .i64 x324004_21, .int .u8 x324005_21] 28 (0, 0)) (by (with_reducible repeat (first | refine kN ?_ _ | refine kD ?_ | refine kA ?_ _)); exact BK323.out) hb); have n1_ := Aside0.mk (blk_below (g := gb332) (o := .cells #[.int .i64 t324, .int .i64 t325, .int .u8 t326, .int .i64 t327, .int .i64 t328, .int .i64 t329, .int .i64 t330, .bool t331] 25 (0, 0)) (by (with_reducible repeat (first | refine kN ?_ _ | refine kD ?_ | refine kA ?_ _)); exact BK332.out) hb); have n2_ := Aside0.mk (blk_below (g := gb340) (o := .cells #[.int .u8 t333, .int .i64 t334, .int .i64 t335, .int .i64 t336, .int .i64 t337, .int .u8 t338] 28 (0, 0)) (by (with_reducible repeat (first | refine kN ?_ _ | refine kD ?_ | refine kA ?_ _)); exact BK340.out) hb); have n3_ := Aside0.mk (blk_below (g := gb342) (o := .cells #[.int .u8 x324000_21, .int .i64 x324001_21, .int .i64 x324002_21, .int .i64 x324003_21, .int .i64 x324004_21, .int .u8 0] 28 (0, 0)) (by (with_reducible repeat (first | refine kN ?_ _ | refine kD ?_ | refine kA ?_ _)); exact BK342.out) hb); have n4_ := Aside0.mk (below_step (by repeat (first | (with_reducible first | exact HB.out | apply kL | apply kM | apply kE | refine kS ?_ GE323.out | refine kS ?_ GE332.out | refine kS ?_ GE340.out | refine kS ?_ GE342.out) | exact HB.out)) hb); have n5_ := Aside0.mk (hbox); have n6_ := Aside0.mk ((by rw [hg]; exact (below_size (by repeat (first | (with_reducible first | exact HB.out | apply kL | apply kM | apply kE | refine kS ?_ GE323.out | refine kS ?_ GE332.out | refine kS ?_ GE340.out | refine kS ?_ GE342.out) | exact HB.out))) : w.heap.size ≤ gb352)); have n7_ := Aside0.mk ((by rw [hg]; exact (below_size (by repeat (first | (with_reducible first | exact HB.out | apply kL | apply kM | apply kE | refine kS ?_ GE323.out | refine kS ?_ GE332.out | refine kS ?_ GE340.out | refine kS ?_ GE342.out) | exact HB.out))) : w.heap.size ≤ gb352)); have n8_ := Aside0.mk ((by rw [hg]; exact Nat.ne_of_lt (blk_lt (g := gb323) (o := .cells #[.int .u8 x324000_21, .int .i64 x324001_21, .int .i64 x324002_21, .int .i64 x324003_21, .int .i64 x324004_21, .int .u8 x324005_21] 28 (0, 0)) (by (with_reducible repeat (first | refine kN ?_ _ | refine kD ?_ | refine kA ?_ _)); exact BK323.out)) : gb323 ≠ gb352)); have n9_ := Aside0.mk ((by rw [hg]; exact Nat.ne_of_gt (blk_lt (g := gb323) (o := .cells #[.int .u8 x324000_21, .int .i64 x324001_21, .int .i64 x324002_21, .int .i64 x324003_21, .int .i64 x324004_21, .int .u8 x324005_21] 28 (0, 0)) (by (with_reducible repeat (first | refine kN ?_ _ | refine kD ?_ | refine kA ?_ _)); exact BK323.out)) : gb352 ≠ gb323)); have n10_ := Aside0.mk ((by rw [hg]; exact Nat.ne_of_lt (blk_lt (g := gb332) (o := .cells #[.int .i64 t324, .int .i64 t325, .int .u8 t326, .int .i64 t327, .int .i64 t328, .int .i64 t329, .int .i64 t330, .bool t331] 25 (0, 0)) (by (with_reducible repeat (first | refine kN ?_ _ | refine kD ?_ | refine kA ?_ _)); exact BK332.out)) : gb332 ≠ gb352)); have n11_ := Aside0.mk ((by rw [hg]; exact Nat.ne_of_gt (blk_lt (g := gb332) (o := .cells #[.int .i64 t324, .int .i64 t325, .int .u8 t326, .int .i64 t327, .int .i64 t328, .int .i64 t329, .int .i64 t330, .bool t331] 25 (0, 0)) (by (with_reducible repeat (first | refine kN ?_ _ | refine kD ?_ | refine kA ?_ _)); exact BK332.out)) : gb352 ≠ gb332)); have n12_ := Aside0.mk ((by rw [hg]; exact Nat.ne_of_lt (blk_lt (g := gb340) (o := .cells #[.int .u8 t333, .int .i64 t334, .int .i64 t335, .int .i64 t336, .int .i64 t337, .int .u8 t338] 28 (0, 0)) (by (with_reducible repeat (first | refine kN ?_ _ | refine kD ?_ | refine kA ?_ _)); exact BK340.out)) : gb340 ≠ gb352)); have n13_ := Aside0.mk ((by rw [hg]; exact Nat.ne_of_gt (blk_lt (g := gb340) (o := .cells #[.int .u8 t333, .int .i64 t334, .int .i64 t335, .int .i64 t336, .int .i64 t337, .int .u8 t338] 28 (0, 0)) (by (with_reducible repeat (first | refine kN ?_ _ | refine kD ?_ | refine kA ?_ _)); exact BK340.out)) : gb352 ≠ gb340)); have n14_ := Aside0.mk ((by rw [hg]; exact Nat.ne_of_lt (blk_lt (g := gb342) (o := .cells #[.int .u8 x324000_21, .int .i64 x324001_21, .int .i64 x324002_21, .int .i64 x324003_21, .int .i64 x324004_21, .int .u8 0] 28 (0, 0)) (by (with_reducible repeat (first | refine kN ?_ _ | refine kD ?_ | refine kA ?_ _)); exact BK342.out)) : gb342 ≠ gb352)); have n15_ := Aside0.mk ((by rw [hg]; exact Nat.ne_of_gt (blk_lt (g := gb342) (o := .cells #[.int .u8 x324000_21, .int .i64 x324001_21, .int .i64 x324002_21, .int .i64 x324003_21, .int .i64 x324004_21, .int .u8 0] 28 (0, 0)) (by (with_reducible repeat (first | refine kN ?_ _ | refine kD ?_ | refine kA ?_ _)); exact BK342.out)) : gb352 ≠ gb342)); clear BK323; clear BK332; clear BK340; clear BK342; clear HB; have BK323 := n0_; have BK332 := n1_; have BK340 := n2_; have BK342 := n3_; have HB := n4_; have BK352 := n5_; have GW352 := n6_; have GE352 := n7_; have NB323_352 := n8_; have NB352_323 := n9_; have NB332_352 := n10_; have NB352_332 := n11_; have NB340_352 := n12_; have NB352_340 := n13_; have NB342_352 := n14_; have NB352_342 := n15_; clear n0_ n1_ n2_ n3_ n4_ n5_ n6_ n7_ n8_ n9_ n10_ n11_ n12_ n13_ n14_ n15_; clear hb hbox hg; have hnb110 := NB352_323.out; have hnc110 := NB323_352.out; have hnb111 := NB352_332.out; have hnc111 := NB332_352.out; have hnb112 := NB352_340.out; have hnc112 := NB340_352.out; have hnb113 := NB352_342.out; have hnc113 := NB342_352.out; have hcz114_0 : w109.cell? ⟨gb352, 0, none⟩ = some (.int .i64 0) := (kC BK352.out 0).trans rfl; have hcz114_1 : w109.cell? ⟨gb352, 1, none⟩ = some (.int .i64 0) := (kC BK352.out 1).trans rfl; have hcz114_2 : w109.cell? ⟨gb352, 2, none⟩ = some (.int .u8 0) := (kC BK352.out 2).trans rfl; have hcz114_3 : w109.cell? ⟨gb352, 3, none⟩ = some (.int .i64 0) := (kC BK352.out 3).trans rfl; have hcz114_4 : w109.cell? ⟨gb352, 4, none⟩ = some (.int .i64 0) := (kC BK352.out 4).trans rfl; have hcz114_5 : w109.cell? ⟨gb352, 5, none⟩ = some (.int .i64 0) := (kC BK352.out 5).trans rfl; have hcz114_6 : w109.cell? ⟨gb352, 6, none⟩ = some (.int .i64 0) := (kC BK352.out 6).trans rfl; have hcz114_7 : w109.cell? ⟨gb352, 7, none⟩ = some (.bool false) := (kC BK352.out 7).trans rfl; have hfz114_0 := kF BK352.out 0; have hfz114_1 := kF BK352.out 1; have hfz114_2 := kF BK352.out 2; have hfz114_3 := kF BK352.out 3; have hfz114_4 := kF BK352.out 4; have hfz114_5 := kF BK352.out 5; have hfz114_6 := kF BK352.out 6; have hfz114_7 := kF BK352.out 7))
     (try simp only [Act.put, List.setIfInBounds_toArray, List.set_cons_zero, List.set_cons_succ])
     go_cut [93] (fun v93 wc => ∃ (kq : Nat) (x93_95 : Bool), v93 = .bool x93_95 ∧ Aside0 (paybooklaw12_CycleOld.j2 kq t351 x93_95 t324 t325 t326 t327 t328 t329 t330 t331 t343 t344 t345 t346 t347 t348 t349 t350 = some true) ∧ Aside0 (kq ≤ kj21) ∧ Aside0 (wc.heap[gb323]? = some (.cells #[.int .u8 x324000_21, .int .i64 x324001_21, .int .i64 x324002_21, .int .i64 x324003_21, .int .i64 x324004_21, .int .u8 x324005_21] 28 (0, 0))) ∧ Aside0 (wc.heap[gb332]? = some (.cells #[.int .i64 t324, .int .i64 t325, .int .u8 t326, .int .i64 t327, .int .i64 t328, .int .i64 t329, .int .i64 t330, .bool t331] 25 (0, 0))) ∧ Aside0 (wc.heap[gb340]? = some (.cells #[.int .u8 t333, .int .i64 t334, .int .i64 t335, .int .i64 t336, .int .i64 t337, .int .u8 t338] 28 (0, 0))) ∧ Aside0 (wc.heap[gb342]? = some (.cells #[.int .u8 x324000_21, .int .i64 x324001_21, .int .i64 x324002_21, .int .i64 x324003_21, .int .i64 x324004_21, .int .u8 0] 28 (0, 0))) ∧ Aside0 (wc.heap[gb352]? = some (.cells #[.int .i64 t343, .int .i64 t344, .int .u8 t345, .int .i64 t346, .int .i64 t347, .int .i64 t348, .int .i64 t349, .bool t350] 25 (0, 0))) ∧ Aside0 (Below w.heap.size w wc))
     case first =>
      have H := HC96.out
      clear HC96
      by_cases c115 : t339 = true
      ·subst c115
       have H1 : (if (x324000_21 == t333 && (x324001_21 == t334 && (x324002_21 == t335 && (x324003_21 == t336 && (x324004_21 == t337 && (0 == t338)))))) = true then (paybooklaw12_CycleOld.j2 kj21 t351 (x324005_21 != 0) t324 t325 t326 t327 t328 t329 t330 t331 t343 t344 t345 t346 t347 t348 t349 t350) else (paybooklaw12_CycleOld.j2 kj21 t351 false t324 t325 t326 t327 t328 t329 t330 t331 t343 t344 t345 t346 t347 t348 t349 t350)) = some true := by rw [if_pos rfl] at H; try exact H
       clear H
       have H := H1
       clear H1
       by_cases c116 : (x324000_21 == t333 && (x324001_21 == t334 && (x324002_21 == t335 && (x324003_21 == t336 && (x324004_21 == t337 && (0 == t338)))))) = true
       ·rw [if_pos c116] at H
        have c116b0 : (x324000_21 == t333 && (x324001_21 == t334 && (x324002_21 == t335 && (x324003_21 == t336 && (x324004_21 == t337 && (0 == t338)))))) = true := c116
        (try (have c116b1 : decide (x324000_21 = t333 && (x324001_21 == t334 && (x324002_21 == t335 && (x324003_21 == t336 && (x324004_21 == t337 && (0 == t338)))))) = true := by simpa using c116))
        (try (have c116b2 : (x324000_21 == t333 && (x324001_21 == t334 && (x324002_21 == t335 && (x324003_21 == t336 && (x324004_21 == t337 && (0 == t338)))))) = true := by simpa using c116))
        clear c116
        (first | (generalize hg_ : (x324000_21 == t333 && (x324001_21 == t334 && (x324002_21 == t335 && (x324003_21 == t336 && (x324004_21 == t337 && (0 == t338)))))) = bg_ at *; subst c116b0; have c116b0 := hg_; clear hg_) | rw [c116b0] | (simp only [i64_w, i32_w]; rw [c116b0]) | skip)
        have H' := Aside0.mk H
        clear H
        have hnb117 := NB342_323.out
        have hnc117 := NB323_342.out
        have hnb118 := NB342_332.out
        have hnc118 := NB332_342.out
        have hnb119 := NB342_340.out
        have hnc119 := NB340_342.out
        have hnb120 := NB342_352.out
        have hnc120 := NB352_342.out
        have hcz121_0 : w109.cell? ⟨gb342, 0, none⟩ = some (.int .u8 x324000_21) := (kC BK342.out 0).trans rfl
        have hcz121_1 : w109.cell? ⟨gb342, 1, none⟩ = some (.int .i64 x324001_21) := (kC BK342.out 1).trans rfl
        have hcz121_2 : w109.cell? ⟨gb342, 2, none⟩ = some (.int .i64 x324002_21) := (kC BK342.out 2).trans rfl
        have hcz121_3 : w109.cell? ⟨gb342, 3, none⟩ = some (.int .i64 x324003_21) := (kC BK342.out 3).trans rfl
        have hcz121_4 : w109.cell? ⟨gb342, 4, none⟩ = some (.int .i64 x324004_21) := (kC BK342.out 4).trans rfl
        have hcz121_5 : w109.cell? ⟨gb342, 5, none⟩ = some (.int .u8 0) := (kC BK342.out 5).trans rfl
        have hfz121_0 := kF BK342.out 0
        have hfz121_1 := kF BK342.out 1
        have hfz121_2 := kF BK342.out 2
        have hfz121_3 := kF BK342.out 3
        have hfz121_4 := kF BK342.out 4
        have hfz121_5 := kF BK342.out 5
        have hnb122 := NB340_323.out
        have hnc122 := NB323_340.out
        have hnb123 := NB340_332.out
        have hnc123 := NB332_340.out
        have hnb124 := NB340_352.out
        have hnc124 := NB352_340.out
        have hcz125_0 : w109.cell? ⟨gb340, 0, none⟩ = some (.int .u8 t333) := (kC BK340.out 0).trans rfl
        have hcz125_1 : w109.cell? ⟨gb340, 1, none⟩ = some (.int .i64 t334) := (kC BK340.out 1).trans rfl
        have hcz125_2 : w109.cell? ⟨gb340, 2, none⟩ = some (.int .i64 t335) := (kC BK340.out 2).trans rfl
        have hcz125_3 : w109.cell? ⟨gb340, 3, none⟩ = some (.int .i64 t336) := (kC BK340.out 3).trans rfl
        have hcz125_4 : w109.cell? ⟨gb340, 4, none⟩ = some (.int .i64 t337) := (kC BK340.out 4).trans rfl
        have hcz125_5 : w109.cell? ⟨gb340, 5, none⟩ = some (.int .u8 t338) := (kC BK340.out 5).trans rfl
        have hfz125_0 := kF BK340.out 0
        have hfz125_1 := kF BK340.out 1
        have hfz125_2 := kF BK340.out 2
        have hfz125_3 := kF BK340.out 3
        have hfz125_4 := kF BK340.out 4
        have hfz125_5 := kF BK340.out 5
        have hnb126 := NB323_332.out
        have hnc126 := NB332_323.out
        have hnb127 := NB323_352.out
        have hnc127 := NB352_323.out
        have hcz128_0 : w109.cell? ⟨gb323, 0, none⟩ = some (.int .u8 x324000_21) := (kC BK323.out 0).trans rfl
        have hcz128_1 : w109.cell? ⟨gb323, 1, none⟩ = some (.int .i64 x324001_21) := (kC BK323.out 1).trans rfl
        have hcz128_2 : w109.cell? ⟨gb323, 2, none⟩ = some (.int .i64 x324002_21) := (kC BK323.out 2).trans rfl
        have hcz128_3 : w109.cell? ⟨gb323, 3, none⟩ = some (.int .i64 x324003_21) := (kC BK323.out 3).trans rfl
        have hcz128_4 : w109.cell? ⟨gb323, 4, none⟩ = some (.int .i64 x324004_21) := (kC BK323.out 4).trans rfl
        have hcz128_5 : w109.cell? ⟨gb323, 5, none⟩ = some (.int .u8 x324005_21) := (kC BK323.out 5).trans rfl
        have hfz128_0 := kF BK323.out 0
        have hfz128_1 := kF BK323.out 1
        have hfz128_2 := kF BK323.out 2
        have hfz128_3 := kF BK323.out 3
        have hfz128_4 := kF BK323.out 4
        have hfz128_5 := kF BK323.out 5
        go_wp2
        go_meet
        case rel => exact ⟨_, ((x324005_21 != 0)), (by first | rfl | (simp; done) | (simp [*]; done)), H', ⟨by have := HJ9.out; have := HJ21.out; first | omega | exact Nat.le_refl _⟩, ⟨by (with_reducible repeat (first | refine kN ?_ _ | refine kD ?_ | refine kA ?_ _)); refine kR ?_ NB323_352.out _; (with_reducible repeat (first | refine kN ?_ _ | refine kD ?_ | refine kA ?_ _)); refine kR ?_ NB323_352.out _; (with_reducible repeat (first | refine kN ?_ _ | refine kD ?_ | refine kA ?_ _)); refine kR ?_ NB323_352.out _; (with_reducible repeat (first | refine kN ?_ _ | refine kD ?_ | refine kA ?_ _)); refine kR ?_ NB323_352.out _; (with_reducible repeat (first | refine kN ?_ _ | refine kD ?_ | refine kA ?_ _)); refine kR ?_ NB323_352.out _; (with_reducible repeat (first | refine kN ?_ _ | refine kD ?_ | refine kA ?_ _)); refine kR ?_ NB323_352.out _; (with_reducible repeat (first | refine kN ?_ _ | refine kD ?_ | refine kA ?_ _)); refine kR ?_ NB323_352.out _; (with_reducible repeat (first | refine kN ?_ _ | refine kD ?_ | refine kA ?_ _)); refine kR ?_ NB323_352.out _; (with_reducible repeat (first | refine kN ?_ _ | refine kD ?_ | refine kA ?_ _)); exact BK323.out⟩, ⟨by (with_reducible repeat (first | refine kN ?_ _ | refine kD ?_ | refine kA ?_ _)); refine kR ?_ NB332_352.out _; (with_reducible repeat (first | refine kN ?_ _ | refine kD ?_ | refine kA ?_ _)); refine kR ?_ NB332_352.out _; (with_reducible repeat (first | refine kN ?_ _ | refine kD ?_ | refine kA ?_ _)); refine kR ?_ NB332_352.out _; (with_reducible repeat (first | refine kN ?_ _ | refine kD ?_ | refine kA ?_ _)); refine kR ?_ NB332_352.out _; (with_reducible repeat (first | refine kN ?_ _ | refine kD ?_ | refine kA ?_ _)); refine kR ?_ NB332_352.out _; (with_reducible repeat (first | refine kN ?_ _ | refine kD ?_ | refine kA ?_ _)); refine kR ?_ NB332_352.out _; (with_reducible repeat (first | refine kN ?_ _ | refine kD ?_ | refine kA ?_ _)); refine kR ?_ NB332_352.out _; (with_reducible repeat (first | refine kN ?_ _ | refine kD ?_ | refine kA ?_ _)); refine kR ?_ NB332_352.out _; (with_reducible repeat (first | refine kN ?_ _ | refine kD ?_ | refine kA ?_ _)); exact BK332.out⟩, ⟨by (with_reducible repeat (first | refine kN ?_ _ | refine kD ?_ | refine kA ?_ _)); refine kR ?_ NB340_352.out _; (with_reducible repeat (first | refine kN ?_ _ | refine kD ?_ | refine kA ?_ _)); refine kR ?_ NB340_352.out _; (with_reducible repeat (first | refine kN ?_ _ | refine kD ?_ | refine kA ?_ _)); refine kR ?_ NB340_352.out _; (with_reducible repeat (first | refine kN ?_ _ | refine kD ?_ | refine kA ?_ _)); refine kR ?_ NB340_352.out _; (with_reducible repeat (first | refine kN ?_ _ | refine kD ?_ | refine kA ?_ _)); refine kR ?_ NB340_352.out _; (with_reducible repeat (first | refine kN ?_ _ | refine kD ?_ | refine kA ?_ _)); refine kR ?_ NB340_352.out _; (with_reducible repeat (first | refine kN ?_ _ | refine kD ?_ | refine kA ?_ _)); refine kR ?_ NB340_352.out _; (with_reducible repeat (first | refine kN ?_ _ | refine kD ?_ | refine kA ?_ _)); refine kR ?_ NB340_352.out _; (with_reducible repeat (first | refine kN ?_ _ | refine kD ?_ | refine kA ?_ _)); exact BK340.out⟩, ⟨by (with_reducible repeat (first | refine kN ?_ _ | refine kD ?_ | refine kA ?_ _)); refine kR ?_ NB342_352.out _; (with_reducible repeat (first | refine kN ?_ _ | refine kD ?_ | refine kA ?_ _)); refine kR ?_ NB342_352.out _; (with_reducible repeat (first | refine kN ?_ _ | refine kD ?_ | refine kA ?_ _)); refine kR ?_ NB342_352.out _; (with_reducible repeat (first | refine kN ?_ _ | refine kD ?_ | refine kA ?_ _)); refine kR ?_ NB342_352.out _; (with_reducible repeat (first | refine kN ?_ _ | refine kD ?_ | refine kA ?_ _)); refine kR ?_ NB342_352.out _; (with_reducible repeat (first | refine kN ?_ _ | refine kD ?_ | refine kA ?_ _)); refine kR ?_ NB342_352.out _; (with_reducible repeat (first | refine kN ?_ _ | refine kD ?_ | refine kA ?_ _)); refine kR ?_ NB342_352.out _; (with_reducible repeat (first | refine kN ?_ _ | refine kD ?_ | refine kA ?_ _)); refine kR ?_ NB342_352.out _; (with_reducible repeat (first | refine kN ?_ _ | refine kD ?_ | refine kA ?_ _)); exact BK342.out⟩, ⟨by (with_reducible repeat (first | refine kN ?_ _ | refine kD ?_ | refine kA ?_ _)); refine kP (cs := #[.int .i64 t343, .int .i64 t344, .int .u8 t345, .int .i64 t346, .int .i64 t347, .int .i64 t348, .int .i64 t349, .bool false]) ?_ 7 _ rfl; (with_reducible repeat (first | refine kN ?_ _ | refine kD ?_ | refine kA ?_ _)); refine kP (cs := #[.int .i64 t343, .int .i64 t344, .int .u8 t345, .int .i64 t346, .int .i64 t347, .int .i64 t348, .int .i64 0, .bool false]) ?_ 6 _ rfl; (with_reducible repeat (first | refine kN ?_ _ | refine kD ?_ | refine kA ?_ _)); refine kP (cs := #[.int .i64 t343, .int .i64 t344, .int .u8 t345, .int .i64 t346, .int .i64 t347, .int .i64 0, .int .i64 0, .bool false]) ?_ 5 _ rfl; (with_reducible repeat (first | refine kN ?_ _ | refine kD ?_ | refine kA ?_ _)); refine kP (cs := #[.int .i64 t343, .int .i64 t344, .int .u8 t345, .int .i64 t346, .int .i64 0, .int .i64 0, .int .i64 0, .bool false]) ?_ 4 _ rfl; (with_reducible repeat (first | refine kN ?_ _ | refine kD ?_ | refine kA ?_ _)); refine kP (cs := #[.int .i64 t343, .int .i64 t344, .int .u8 t345, .int .i64 0, .int .i64 0, .int .i64 0, .int .i64 0, .bool false]) ?_ 3 _ rfl; (with_reducible repeat (first | refine kN ?_ _ | refine kD ?_ | refine kA ?_ _)); refine kP (cs := #[.int .i64 t343, .int .i64 t344, .int .u8 0, .int .i64 0, .int .i64 0, .int .i64 0, .int .i64 0, .bool false]) ?_ 2 _ rfl; (with_reducible repeat (first | refine kN ?_ _ | refine kD ?_ | refine kA ?_ _)); refine kP (cs := #[.int .i64 t343, .int .i64 0, .int .u8 0, .int .i64 0, .int .i64 0, .int .i64 0, .int .i64 0, .bool false]) ?_ 1 _ rfl; (with_reducible repeat (first | refine kN ?_ _ | refine kD ?_ | refine kA ?_ _)); refine kP (cs := #[.int .i64 0, .int .i64 0, .int .u8 0, .int .i64 0, .int .i64 0, .int .i64 0, .int .i64 0, .bool false]) ?_ 0 _ rfl; (with_reducible repeat (first | refine kN ?_ _ | refine kD ?_ | refine kA ?_ _)); exact BK352.out⟩, ⟨by repeat (first | (with_reducible first | exact HB.out | apply kL | apply kM | apply kE | refine kS ?_ GE323.out | refine kS ?_ GE332.out | refine kS ?_ GE340.out | refine kS ?_ GE342.out | refine kS ?_ GE352.out) | exact HB.out)⟩⟩
       ·rw [if_neg c116] at H
        have c116b0 : (x324000_21 == t333 && (x324001_21 == t334 && (x324002_21 == t335 && (x324003_21 == t336 && (x324004_21 == t337 && (0 == t338)))))) = false := by simpa using c116
        (try (have c116b1 : decide (x324000_21 = t333 && (x324001_21 == t334 && (x324002_21 == t335 && (x324003_21 == t336 && (x324004_21 == t337 && (0 == t338)))))) = false := by simpa using c116))
        (try (have c116b2 : (x324000_21 == t333 && (x324001_21 == t334 && (x324002_21 == t335 && (x324003_21 == t336 && (x324004_21 == t337 && (0 == t338)))))) = false := by simpa using c116))
        (try (have c116b3 : ¬ (x324000_21 = t333 && (x324001_21 == t334 && (x324002_21 == t335 && (x324003_21 == t336 && (x324004_21 == t337 && (0 == t338)))))) := by simpa using c116))
        clear c116
        (first | (generalize hg_ : (x324000_21 == t333 && (x324001_21 == t334 && (x324002_21 == t335 && (x324003_21 == t336 && (x324004_21 == t337 && (0 == t338)))))) = bg_ at *; subst c116b0; have c116b0 := hg_; clear hg_) | rw [c116b0] | (simp only [i64_w, i32_w]; rw [c116b0]) | skip)
        have H' := Aside0.mk H
        clear H
        have hnb129 := NB342_323.out
        have hnc129 := NB323_342.out
        have hnb130 := NB342_332.out
        have hnc130 := NB332_342.out
        have hnb131 := NB342_340.out
        have hnc131 := NB340_342.out
        have hnb132 := NB342_352.out
        have hnc132 := NB352_342.out
        have hcz133_0 : w109.cell? ⟨gb342, 0, none⟩ = some (.int .u8 x324000_21) := (kC BK342.out 0).trans rfl
        have hcz133_1 : w109.cell? ⟨gb342, 1, none⟩ = some (.int .i64 x324001_21) := (kC BK342.out 1).trans rfl
        have hcz133_2 : w109.cell? ⟨gb342, 2, none⟩ = some (.int .i64 x324002_21) := (kC BK342.out 2).trans rfl
        have hcz133_3 : w109.cell? ⟨gb342, 3, none⟩ = some (.int .i64 x324003_21) := (kC BK342.out 3).trans rfl
        have hcz133_4 : w109.cell? ⟨gb342, 4, none⟩ = some (.int .i64 x324004_21) := (kC BK342.out 4).trans rfl
        have hcz133_5 : w109.cell? ⟨gb342, 5, none⟩ = some (.int .u8 0) := (kC BK342.out 5).trans rfl
        have hfz133_0 := kF BK342.out 0
        have hfz133_1 := kF BK342.out 1
        have hfz133_2 := kF BK342.out 2
        have hfz133_3 := kF BK342.out 3
        have hfz133_4 := kF BK342.out 4
        have hfz133_5 := kF BK342.out 5
        have hnb134 := NB340_323.out
        have hnc134 := NB323_340.out
        have hnb135 := NB340_332.out
        have hnc135 := NB332_340.out
        have hnb136 := NB340_352.out
        have hnc136 := NB352_340.out
        have hcz137_0 : w109.cell? ⟨gb340, 0, none⟩ = some (.int .u8 t333) := (kC BK340.out 0).trans rfl
        have hcz137_1 : w109.cell? ⟨gb340, 1, none⟩ = some (.int .i64 t334) := (kC BK340.out 1).trans rfl
        have hcz137_2 : w109.cell? ⟨gb340, 2, none⟩ = some (.int .i64 t335) := (kC BK340.out 2).trans rfl
        have hcz137_3 : w109.cell? ⟨gb340, 3, none⟩ = some (.int .i64 t336) := (kC BK340.out 3).trans rfl
        have hcz137_4 : w109.cell? ⟨gb340, 4, none⟩ = some (.int .i64 t337) := (kC BK340.out 4).trans rfl
        have hcz137_5 : w109.cell? ⟨gb340, 5, none⟩ = some (.int .u8 t338) := (kC BK340.out 5).trans rfl
        have hfz137_0 := kF BK340.out 0
        have hfz137_1 := kF BK340.out 1
        have hfz137_2 := kF BK340.out 2
        have hfz137_3 := kF BK340.out 3
        have hfz137_4 := kF BK340.out 4
        have hfz137_5 := kF BK340.out 5
        go_wp2
        go_meet
        case rel => exact ⟨_, (false), (by first | rfl | (simp; done) | (simp [*]; done)), H', ⟨by have := HJ9.out; have := HJ21.out; first | omega | exact Nat.le_refl _⟩, ⟨by (with_reducible repeat (first | refine kN ?_ _ | refine kD ?_ | refine kA ?_ _)); refine kR ?_ NB323_352.out _; (with_reducible repeat (first | refine kN ?_ _ | refine kD ?_ | refine kA ?_ _)); refine kR ?_ NB323_352.out _; (with_reducible repeat (first | refine kN ?_ _ | refine kD ?_ | refine kA ?_ _)); refine kR ?_ NB323_352.out _; (with_reducible repeat (first | refine kN ?_ _ | refine kD ?_ | refine kA ?_ _)); refine kR ?_ NB323_352.out _; (with_reducible repeat (first | refine kN ?_ _ | refine kD ?_ | refine kA ?_ _)); refine kR ?_ NB323_352.out _; (with_reducible repeat (first | refine kN ?_ _ | refine kD ?_ | refine kA ?_ _)); refine kR ?_ NB323_352.out _; (with_reducible repeat (first | refine kN ?_ _ | refine kD ?_ | refine kA ?_ _)); refine kR ?_ NB323_352.out _; (with_reducible repeat (first | refine kN ?_ _ | refine kD ?_ | refine kA ?_ _)); refine kR ?_ NB323_352.out _; (with_reducible repeat (first | refine kN ?_ _ | refine kD ?_ | refine kA ?_ _)); exact BK323.out⟩, ⟨by (with_reducible repeat (first | refine kN ?_ _ | refine kD ?_ | refine kA ?_ _)); refine kR ?_ NB332_352.out _; (with_reducible repeat (first | refine kN ?_ _ | refine kD ?_ | refine kA ?_ _)); refine kR ?_ NB332_352.out _; (with_reducible repeat (first | refine kN ?_ _ | refine kD ?_ | refine kA ?_ _)); refine kR ?_ NB332_352.out _; (with_reducible repeat (first | refine kN ?_ _ | refine kD ?_ | refine kA ?_ _)); refine kR ?_ NB332_352.out _; (with_reducible repeat (first | refine kN ?_ _ | refine kD ?_ | refine kA ?_ _)); refine kR ?_ NB332_352.out _; (with_reducible repeat (first | refine kN ?_ _ | refine kD ?_ | refine kA ?_ _)); refine kR ?_ NB332_352.out _; (with_reducible repeat (first | refine kN ?_ _ | refine kD ?_ | refine kA ?_ _)); refine kR ?_ NB332_352.out _; (with_reducible repeat (first | refine kN ?_ _ | refine kD ?_ | refine kA ?_ _)); refine kR ?_ NB332_352.out _; (with_reducible repeat (first | refine kN ?_ _ | refine kD ?_ | refine kA ?_ _)); exact BK332.out⟩, ⟨by (with_reducible repeat (first | refine kN ?_ _ | refine kD ?_ | refine kA ?_ _)); refine kR ?_ NB340_352.out _; (with_reducible repeat (first | refine kN ?_ _ | refine kD ?_ | refine kA ?_ _)); refine kR ?_ NB340_352.out _; (with_reducible repeat (first | refine kN ?_ _ | refine kD ?_ | refine kA ?_ _)); refine kR ?_ NB340_352.out _; (with_reducible repeat (first | refine kN ?_ _ | refine kD ?_ | refine kA ?_ _)); refine kR ?_ NB340_352.out _; (with_reducible repeat (first | refine kN ?_ _ | refine kD ?_ | refine kA ?_ _)); refine kR ?_ NB340_352.out _; (with_reducible repeat (first | refine kN ?_ _ | refine kD ?_ | refine kA ?_ _)); refine kR ?_ NB340_352.out _; (with_reducible repeat (first | refine kN ?_ _ | refine kD ?_ | refine kA ?_ _)); refine kR ?_ NB340_352.out _; (with_reducible repeat (first | refine kN ?_ _ | refine kD ?_ | refine kA ?_ _)); refine kR ?_ NB340_352.out _; (with_reducible repeat (first | refine kN ?_ _ | refine kD ?_ | refine kA ?_ _)); exact BK340.out⟩, ⟨by (with_reducible repeat (first | refine kN ?_ _ | refine kD ?_ | refine kA ?_ _)); refine kR ?_ NB342_352.out _; (with_reducible repeat (first | refine kN ?_ _ | refine kD ?_ | refine kA ?_ _)); refine kR ?_ NB342_352.out _; (with_reducible repeat (first | refine kN ?_ _ | refine kD ?_ | refine kA ?_ _)); refine kR ?_ NB342_352.out _; (with_reducible repeat (first | refine kN ?_ _ | refine kD ?_ | refine kA ?_ _)); refine kR ?_ NB342_352.out _; (with_reducible repeat (first | refine kN ?_ _ | refine kD ?_ | refine kA ?_ _)); refine kR ?_ NB342_352.out _; (with_reducible repeat (first | refine kN ?_ _ | refine kD ?_ | refine kA ?_ _)); refine kR ?_ NB342_352.out _; (with_reducible repeat (first | refine kN ?_ _ | refine kD ?_ | refine kA ?_ _)); refine kR ?_ NB342_352.out _; (with_reducible repeat (first | refine kN ?_ _ | refine kD ?_ | refine kA ?_ _)); refine kR ?_ NB342_352.out _; (with_reducible repeat (first | refine kN ?_ _ | refine kD ?_ | refine kA ?_ _)); exact BK342.out⟩, ⟨by (with_reducible repeat (first | refine kN ?_ _ | refine kD ?_ | refine kA ?_ _)); refine kP (cs := #[.int .i64 t343, .int .i64 t344, .int .u8 t345, .int .i64 t346, .int .i64 t347, .int .i64 t348, .int .i64 t349, .bool false]) ?_ 7 _ rfl; (with_reducible repeat (first | refine kN ?_ _ | refine kD ?_ | refine kA ?_ _)); refine kP (cs := #[.int .i64 t343, .int .i64 t344, .int .u8 t345, .int .i64 t346, .int .i64 t347, .int .i64 t348, .int .i64 0, .bool false]) ?_ 6 _ rfl; (with_reducible repeat (first | refine kN ?_ _ | refine kD ?_ | refine kA ?_ _)); refine kP (cs := #[.int .i64 t343, .int .i64 t344, .int .u8 t345, .int .i64 t346, .int .i64 t347, .int .i64 0, .int .i64 0, .bool false]) ?_ 5 _ rfl; (with_reducible repeat (first | refine kN ?_ _ | refine kD ?_ | refine kA ?_ _)); refine kP (cs := #[.int .i64 t343, .int .i64 t344, .int .u8 t345, .int .i64 t346, .int .i64 0, .int .i64 0, .int .i64 0, .bool false]) ?_ 4 _ rfl; (with_reducible repeat (first | refine kN ?_ _ | refine kD ?_ | refine kA ?_ _)); refine kP (cs := #[.int .i64 t343, .int .i64 t344, .int .u8 t345, .int .i64 0, .int .i64 0, .int .i64 0, .int .i64 0, .bool false]) ?_ 3 _ rfl; (with_reducible repeat (first | refine kN ?_ _ | refine kD ?_ | refine kA ?_ _)); refine kP (cs := #[.int .i64 t343, .int .i64 t344, .int .u8 0, .int .i64 0, .int .i64 0, .int .i64 0, .int .i64 0, .bool false]) ?_ 2 _ rfl; (with_reducible repeat (first | refine kN ?_ _ | refine kD ?_ | refine kA ?_ _)); refine kP (cs := #[.int .i64 t343, .int .i64 0, .int .u8 0, .int .i64 0, .int .i64 0, .int .i64 0, .int .i64 0, .bool false]) ?_ 1 _ rfl; (with_reducible repeat (first | refine kN ?_ _ | refine kD ?_ | refine kA ?_ _)); refine kP (cs := #[.int .i64 0, .int .i64 0, .int .u8 0, .int .i64 0, .int .i64 0, .int .i64 0, .int .i64 0, .bool false]) ?_ 0 _ rfl; (with_reducible repeat (first | refine kN ?_ _ | refine kD ?_ | refine kA ?_ _)); exact BK352.out⟩, ⟨by repeat (first | (with_reducible first | exact HB.out | apply kL | apply kM | apply kE | refine kS ?_ GE323.out | refine kS ?_ GE332.out | refine kS ?_ GE340.out | refine kS ?_ GE342.out | refine kS ?_ GE352.out) | exact HB.out)⟩⟩
      ·replace c115 := Bool.eq_false_iff.mpr c115
       subst c115
       have H1 : (paybooklaw12_CycleOld.j2 kj21 t351 false t324 t325 t326 t327 t328 t329 t330 t331 t343 t344 t345 t346 t347 t348 t349 t350) = some true := by rw [if_neg (show ¬ (false = true) by decide)] at H; try exact H
       clear H
       have H := H1
       clear H1
       have H' := Aside0.mk H
       clear H
       go_wp2
       go_meet
       case rel => exact ⟨_, (false), (by first | rfl | (simp; done) | (simp [*]; done)), H', ⟨by have := HJ9.out; have := HJ21.out; first | omega | exact Nat.le_refl _⟩, ⟨by (with_reducible repeat (first | refine kN ?_ _ | refine kD ?_ | refine kA ?_ _)); refine kR ?_ NB323_352.out _; (with_reducible repeat (first | refine kN ?_ _ | refine kD ?_ | refine kA ?_ _)); refine kR ?_ NB323_352.out _; (with_reducible repeat (first | refine kN ?_ _ | refine kD ?_ | refine kA ?_ _)); refine kR ?_ NB323_352.out _; (with_reducible repeat (first | refine kN ?_ _ | refine kD ?_ | refine kA ?_ _)); refine kR ?_ NB323_352.out _; (with_reducible repeat (first | refine kN ?_ _ | refine kD ?_ | refine kA ?_ _)); refine kR ?_ NB323_352.out _; (with_reducible repeat (first | refine kN ?_ _ | refine kD ?_ | refine kA ?_ _)); refine kR ?_ NB323_352.out _; (with_reducible repeat (first | refine kN ?_ _ | refine kD ?_ | refine kA ?_ _)); refine kR ?_ NB323_352.out _; (with_reducible repeat (first | refine kN ?_ _ | refine kD ?_ | refine kA ?_ _)); refine kR ?_ NB323_352.out _; (with_reducible repeat (first | refine kN ?_ _ | refine kD ?_ | refine kA ?_ _)); exact BK323.out⟩, ⟨by (with_reducible repeat (first | refine kN ?_ _ | refine kD ?_ | refine kA ?_ _)); refine kR ?_ NB332_352.out _; (with_reducible repeat (first | refine kN ?_ _ | refine kD ?_ | refine kA ?_ _)); refine kR ?_ NB332_352.out _; (with_reducible repeat (first | refine kN ?_ _ | refine kD ?_ | refine kA ?_ _)); refine kR ?_ NB332_352.out _; (with_reducible repeat (first | refine kN ?_ _ | refine kD ?_ | refine kA ?_ _)); refine kR ?_ NB332_352.out _; (with_reducible repeat (first | refine kN ?_ _ | refine kD ?_ | refine kA ?_ _)); refine kR ?_ NB332_352.out _; (with_reducible repeat (first | refine kN ?_ _ | refine kD ?_ | refine kA ?_ _)); refine kR ?_ NB332_352.out _; (with_reducible repeat (first | refine kN ?_ _ | refine kD ?_ | refine kA ?_ _)); refine kR ?_ NB332_352.out _; (with_reducible repeat (first | refine kN ?_ _ | refine kD ?_ | refine kA ?_ _)); refine kR ?_ NB332_352.out _; (with_reducible repeat (first | refine kN ?_ _ | refine kD ?_ | refine kA ?_ _)); exact BK332.out⟩, ⟨by (with_reducible repeat (first | refine kN ?_ _ | refine kD ?_ | refine kA ?_ _)); refine kR ?_ NB340_352.out _; (with_reducible repeat (first | refine kN ?_ _ | refine kD ?_ | refine kA ?_ _)); refine kR ?_ NB340_352.out _; (with_reducible repeat (first | refine kN ?_ _ | refine kD ?_ | refine kA ?_ _)); refine kR ?_ NB340_352.out _; (with_reducible repeat (first | refine kN ?_ _ | refine kD ?_ | refine kA ?_ _)); refine kR ?_ NB340_352.out _; (with_reducible repeat (first | refine kN ?_ _ | refine kD ?_ | refine kA ?_ _)); refine kR ?_ NB340_352.out _; (with_reducible repeat (first | refine kN ?_ _ | refine kD ?_ | refine kA ?_ _)); refine kR ?_ NB340_352.out _; (with_reducible repeat (first | refine kN ?_ _ | refine kD ?_ | refine kA ?_ _)); refine kR ?_ NB340_352.out _; (with_reducible repeat (first | refine kN ?_ _ | refine kD ?_ | refine kA ?_ _)); refine kR ?_ NB340_352.out _; (with_reducible repeat (first | refine kN ?_ _ | refine kD ?_ | refine kA ?_ _)); exact BK340.out⟩, ⟨by (with_reducible repeat (first | refine kN ?_ _ | refine kD ?_ | refine kA ?_ _)); refine kR ?_ NB342_352.out _; (with_reducible repeat (first | refine kN ?_ _ | refine kD ?_ | refine kA ?_ _)); refine kR ?_ NB342_352.out _; (with_reducible repeat (first | refine kN ?_ _ | refine kD ?_ | refine kA ?_ _)); refine kR ?_ NB342_352.out _; (with_reducible repeat (first | refine kN ?_ _ | refine kD ?_ | refine kA ?_ _)); refine kR ?_ NB342_352.out _; (with_reducible repeat (first | refine kN ?_ _ | refine kD ?_ | refine kA ?_ _)); refine kR ?_ NB342_352.out _; (with_reducible repeat (first | refine kN ?_ _ | refine kD ?_ | refine kA ?_ _)); refine kR ?_ NB342_352.out _; (with_reducible repeat (first | refine kN ?_ _ | refine kD ?_ | refine kA ?_ _)); refine kR ?_ NB342_352.out _; (with_reducible repeat (first | refine kN ?_ _ | refine kD ?_ | refine kA ?_ _)); refine kR ?_ NB342_352.out _; (with_reducible repeat (first | refine kN ?_ _ | refine kD ?_ | refine kA ?_ _)); exact BK342.out⟩, ⟨by (with_reducible repeat (first | refine kN ?_ _ | refine kD ?_ | refine kA ?_ _)); refine kP (cs := #[.int .i64 t343, .int .i64 t344, .int .u8 t345, .int .i64 t346, .int .i64 t347, .int .i64 t348, .int .i64 t349, .bool false]) ?_ 7 _ rfl; (with_reducible repeat (first | refine kN ?_ _ | refine kD ?_ | refine kA ?_ _)); refine kP (cs := #[.int .i64 t343, .int .i64 t344, .int .u8 t345, .int .i64 t346, .int .i64 t347, .int .i64 t348, .int .i64 0, .bool false]) ?_ 6 _ rfl; (with_reducible repeat (first | refine kN ?_ _ | refine kD ?_ | refine kA ?_ _)); refine kP (cs := #[.int .i64 t343, .int .i64 t344, .int .u8 t345, .int .i64 t346, .int .i64 t347, .int .i64 0, .int .i64 0, .bool false]) ?_ 5 _ rfl; (with_reducible repeat (first | refine kN ?_ _ | refine kD ?_ | refine kA ?_ _)); refine kP (cs := #[.int .i64 t343, .int .i64 t344, .int .u8 t345, .int .i64 t346, .int .i64 0, .int .i64 0, .int .i64 0, .bool false]) ?_ 4 _ rfl; (with_reducible repeat (first | refine kN ?_ _ | refine kD ?_ | refine kA ?_ _)); refine kP (cs := #[.int .i64 t343, .int .i64 t344, .int .u8 t345, .int .i64 0, .int .i64 0, .int .i64 0, .int .i64 0, .bool false]) ?_ 3 _ rfl; (with_reducible repeat (first | refine kN ?_ _ | refine kD ?_ | refine kA ?_ _)); refine kP (cs := #[.int .i64 t343, .int .i64 t344, .int .u8 0, .int .i64 0, .int .i64 0, .int .i64 0, .int .i64 0, .bool false]) ?_ 2 _ rfl; (with_reducible repeat (first | refine kN ?_ _ | refine kD ?_ | refine kA ?_ _)); refine kP (cs := #[.int .i64 t343, .int .i64 0, .int .u8 0, .int .i64 0, .int .i64 0, .int .i64 0, .int .i64 0, .bool false]) ?_ 1 _ rfl; (with_reducible repeat (first | refine kN ?_ _ | refine kD ?_ | refine kA ?_ _)); refine kP (cs := #[.int .i64 0, .int .i64 0, .int .u8 0, .int .i64 0, .int .i64 0, .int .i64 0, .int .i64 0, .bool false]) ?_ 0 _ rfl; (with_reducible repeat (first | refine kN ?_ _ | refine kD ?_ | refine kA ?_ _)); exact BK352.out⟩, ⟨by repeat (first | (with_reducible first | exact HB.out | apply kL | apply kM | apply kE | refine kS ?_ GE323.out | refine kS ?_ GE332.out | refine kS ?_ GE340.out | refine kS ?_ GE342.out | refine kS ?_ GE352.out) | exact HB.out)⟩⟩
     case rest =>
      clear HC96
      try clear c1
      try clear c2
      try clear p2
      try clear c3
      try clear c4
      try clear c5
      try clear c6
      try clear p6
      try clear c7
      try clear c8
      try clear c9
      try clear c10
      try clear c11
      try clear c12
      try clear c13
      try clear c14
      try clear c18
      try clear c19
      try clear c21
      try clear c21b0
      try clear c23
      try clear c24
      try clear c24b0
      try clear c24b1
      try clear c25
      try clear c26
      try clear c29
      try clear c30
      try clear c31
      try clear c33
      try clear c36
      try clear c36b0
      try clear c36b1
      try clear c37
      try clear c38
      try clear c41
      try clear c42
      try clear c43
      try clear c45
      try clear c48
      try clear c48b0
      try clear c48b1
      try clear c49
      try clear c50
      try clear c53
      try clear c54
      try clear c55
      try clear c57
      try clear c60
      try clear c60b0
      try clear c60b1
      try clear c61
      try clear c62
      try clear p64
      try clear c65
      try clear c66
      try clear c67
      try clear c69
      try clear c72
      try clear c72b0
      try clear c72b1
      try clear c73
      try clear c74
      try clear c77
      try clear c78
      try clear c79
      try clear c81
      try clear c84
      try clear c85
      try clear c88
      try clear c89
      try clear c90
      try clear c92
      try clear c97
      try clear c98
      try clear c101
      try clear c102
      try clear c103
      try clear c105
      try clear c110
      try clear c111
      try clear c112
      try clear c113
      try clear c115
      try clear c116
      try clear c116b0
      try clear c116b1
      try clear c116b2
      try clear c117
      try clear c118
      try clear c119
      try clear c120
      try clear c122
      try clear c123
      try clear c124
      try clear c126
      try clear c127
      try clear c129
      try clear c130
      try clear c131
      try clear c132
      try clear c134
      try clear c135
      try clear c136
      try clear hcz104_0
      try clear hcz104_1
      try clear hcz104_2
      try clear hcz104_3
      try clear hcz104_4
      try clear hcz104_5
      try clear hcz106_0
      try clear hcz106_1
      try clear hcz106_2
      try clear hcz106_3
      try clear hcz106_4
      try clear hcz106_5
      try clear hcz106_6
      try clear hcz106_7
      try clear hcz107_0
      try clear hcz107_1
      try clear hcz107_2
      try clear hcz107_3
      try clear hcz107_4
      try clear hcz107_5
      try clear hcz114_0
      try clear hcz114_1
      try clear hcz114_2
      try clear hcz114_3
      try clear hcz114_4
      try clear hcz114_5
      try clear hcz114_6
      try clear hcz114_7
      try clear hcz121_0
      try clear hcz121_1
      try clear hcz121_2
      try clear hcz121_3
      try clear hcz121_4
      try clear hcz121_5
      try clear hcz125_0
      try clear hcz125_1
      try clear hcz125_2
      try clear hcz125_3
      try clear hcz125_4
      try clear hcz125_5
      try clear hcz128_0
      try clear hcz128_1
      try clear hcz128_2
      try clear hcz128_3
      try clear hcz128_4
      try clear hcz128_5
      try clear hcz133_0
      try clear hcz133_1
      try clear hcz133_2
      try clear hcz133_3
      try clear hcz133_4
      try clear hcz133_5
      try clear hcz137_0
      try clear hcz137_1
      try clear hcz137_2
      try clear hcz137_3
      try clear hcz137_4
      try clear hcz137_5
      try clear hcz15_0
      try clear hcz15_1
      try clear hcz15_2
      try clear hcz15_3
      try clear hcz15_4
      try clear hcz15_5
      try clear hcz15_6
      try clear hcz15_7
      try clear hcz20_0
      try clear hcz20_1
      try clear hcz20_2
      try clear hcz20_3
      try clear hcz20_4
      try clear hcz20_5
      try clear hcz27_0
      try clear hcz27_1
      try clear hcz27_2
      try clear hcz27_3
      try clear hcz27_4
      try clear hcz27_5
      try clear hcz32_0
      try clear hcz32_1
      try clear hcz32_2
      try clear hcz32_3
      try clear hcz32_4
      try clear hcz32_5
      try clear hcz34_0
      try clear hcz34_1
      try clear hcz34_2
      try clear hcz34_3
      try clear hcz34_4
      try clear hcz34_5
      try clear hcz39_0
      try clear hcz39_1
      try clear hcz39_2
      try clear hcz39_3
      try clear hcz39_4
      try clear hcz39_5
      try clear hcz44_0
      try clear hcz44_1
      try clear hcz44_2
      try clear hcz44_3
      try clear hcz44_4
      try clear hcz44_5
      try clear hcz46_0
      try clear hcz46_1
      try clear hcz46_2
      try clear hcz46_3
      try clear hcz46_4
      try clear hcz46_5
      try clear hcz51_0
      try clear hcz51_1
      try clear hcz51_2
      try clear hcz51_3
      try clear hcz51_4
      try clear hcz51_5
      try clear hcz56_0
      try clear hcz56_1
      try clear hcz56_2
      try clear hcz56_3
      try clear hcz56_4
      try clear hcz56_5
      try clear hcz58_0
      try clear hcz58_1
      try clear hcz58_2
      try clear hcz58_3
      try clear hcz58_4
      try clear hcz58_5
      try clear hcz63_0
      try clear hcz63_1
      try clear hcz63_2
      try clear hcz63_3
      try clear hcz63_4
      try clear hcz63_5
      try clear hcz68_0
      try clear hcz68_1
      try clear hcz68_2
      try clear hcz68_3
      try clear hcz68_4
      try clear hcz68_5
      try clear hcz70_0
      try clear hcz70_1
      try clear hcz70_2
      try clear hcz70_3
      try clear hcz70_4
      try clear hcz70_5
      try clear hcz75_0
      try clear hcz75_1
      try clear hcz75_2
      try clear hcz75_3
      try clear hcz75_4
      try clear hcz75_5
      try clear hcz80_0
      try clear hcz80_1
      try clear hcz80_2
      try clear hcz80_3
      try clear hcz80_4
      try clear hcz80_5
      try clear hcz82_0
      try clear hcz82_1
      try clear hcz82_2
      try clear hcz82_3
      try clear hcz82_4
      try clear hcz82_5
      try clear hcz86_0
      try clear hcz86_1
      try clear hcz86_2
      try clear hcz86_3
      try clear hcz86_4
      try clear hcz86_5
      try clear hcz91_0
      try clear hcz91_1
      try clear hcz91_2
      try clear hcz91_3
      try clear hcz91_4
      try clear hcz91_5
      try clear hcz93_0
      try clear hcz93_1
      try clear hcz93_2
      try clear hcz93_3
      try clear hcz93_4
      try clear hcz93_5
      try clear hcz99_0
      try clear hcz99_1
      try clear hcz99_2
      try clear hcz99_3
      try clear hcz99_4
      try clear hcz99_5
      try clear hfz104_0
      try clear hfz104_1
      try clear hfz104_2
      try clear hfz104_3
      try clear hfz104_4
      try clear hfz104_5
      try clear hfz106_0
      try clear hfz106_1
      try clear hfz106_2
      try clear hfz106_3
      try clear hfz106_4
      try clear hfz106_5
      try clear hfz106_6
      try clear hfz106_7
      try clear hfz107_0
      try clear hfz107_1
      try clear hfz107_2
      try clear hfz107_3
      try clear hfz107_4
      try clear hfz107_5
      try clear hfz114_0
      try clear hfz114_1
      try clear hfz114_2
      try clear hfz114_3
      try clear hfz114_4
      try clear hfz114_5
      try clear hfz114_6
      try clear hfz114_7
      try clear hfz121_0
      try clear hfz121_1
      try clear hfz121_2
      try clear hfz121_3
      try clear hfz121_4
      try clear hfz121_5
      try clear hfz125_0
      try clear hfz125_1
      try clear hfz125_2
      try clear hfz125_3
      try clear hfz125_4
      try clear hfz125_5
      try clear hfz128_0
      try clear hfz128_1
      try clear hfz128_2
      try clear hfz128_3
      try clear hfz128_4
      try clear hfz128_5
      try clear hfz133_0
      try clear hfz133_1
      try clear hfz133_2
      try clear hfz133_3
      try clear hfz133_4
      try clear hfz133_5
      try clear hfz137_0
      try clear hfz137_1
      try clear hfz137_2
      try clear hfz137_3
      try clear hfz137_4
      try clear hfz137_5
      try clear hfz15_0
      try clear hfz15_1
      try clear hfz15_2
      try clear hfz15_3
      try clear hfz15_4
      try clear hfz15_5
      try clear hfz15_6
      try clear hfz15_7
      try clear hfz20_0
      try clear hfz20_1
      try clear hfz20_2
      try clear hfz20_3
      try clear hfz20_4
      try clear hfz20_5
      try clear hfz27_0
      try clear hfz27_1
      try clear hfz27_2
      try clear hfz27_3
      try clear hfz27_4
      try clear hfz27_5
      try clear hfz32_0
      try clear hfz32_1
      try clear hfz32_2
      try clear hfz32_3
      try clear hfz32_4
      try clear hfz32_5
      try clear hfz34_0
      try clear hfz34_1
      try clear hfz34_2
      try clear hfz34_3
      try clear hfz34_4
      try clear hfz34_5
      try clear hfz39_0
      try clear hfz39_1
      try clear hfz39_2
      try clear hfz39_3
      try clear hfz39_4
      try clear hfz39_5
      try clear hfz44_0
      try clear hfz44_1
      try clear hfz44_2
      try clear hfz44_3
      try clear hfz44_4
      try clear hfz44_5
      try clear hfz46_0
      try clear hfz46_1
      try clear hfz46_2
      try clear hfz46_3
      try clear hfz46_4
      try clear hfz46_5
      try clear hfz51_0
      try clear hfz51_1
      try clear hfz51_2
      try clear hfz51_3
      try clear hfz51_4
      try clear hfz51_5
      try clear hfz56_0
      try clear hfz56_1
      try clear hfz56_2
      try clear hfz56_3
      try clear hfz56_4
      try clear hfz56_5
      try clear hfz58_0
      try clear hfz58_1
      try clear hfz58_2
      try clear hfz58_3
      try clear hfz58_4
      try clear hfz58_5
      try clear hfz63_0
      try clear hfz63_1
      try clear hfz63_2
      try clear hfz63_3
      try clear hfz63_4
      try clear hfz63_5
      try clear hfz68_0
      try clear hfz68_1
      try clear hfz68_2
      try clear hfz68_3
      try clear hfz68_4
      try clear hfz68_5
      try clear hfz70_0
      try clear hfz70_1
      try clear hfz70_2
      try clear hfz70_3
      try clear hfz70_4
      try clear hfz70_5
      try clear hfz75_0
      try clear hfz75_1
      try clear hfz75_2
      try clear hfz75_3
      try clear hfz75_4
      try clear hfz75_5
      try clear hfz80_0
      try clear hfz80_1
      try clear hfz80_2
      try clear hfz80_3
      try clear hfz80_4
      try clear hfz80_5
      try clear hfz82_0
      try clear hfz82_1
      try clear hfz82_2
      try clear hfz82_3
      try clear hfz82_4
      try clear hfz82_5
      try clear hfz86_0
      try clear hfz86_1
      try clear hfz86_2
      try clear hfz86_3
      try clear hfz86_4
      try clear hfz86_5
      try clear hfz91_0
      try clear hfz91_1
      try clear hfz91_2
      try clear hfz91_3
      try clear hfz91_4
      try clear hfz91_5
      try clear hfz93_0
      try clear hfz93_1
      try clear hfz93_2
      try clear hfz93_3
      try clear hfz93_4
      try clear hfz93_5
      try clear hfz99_0
      try clear hfz99_1
      try clear hfz99_2
      try clear hfz99_3
      try clear hfz99_4
      try clear hfz99_5
      try clear p2
      try clear p6
      try clear p64
      obtain ⟨kq, x93_95, rfl, HA, HJ95, BK323, BK332, BK340, BK342, BK352, HB⟩ := hcut
      cases kq with
      | zero => exact absurd HA.out (by simp [paybooklaw12_CycleOld.j2])
      | succ kj95 =>
       have H := HA.out
       clear HA
       simp only [paybooklaw12_CycleOld.j2] at H
       by_cases c138 : x93_95 = true
       ·subst c138
        have H1 : ((paybooklaw12_awake.f kj95).bind fun t353 => (if t353 = true then (if t351 = 0 then (some (!(t343 == t324) || (!(t344 == t325) || (!(t345 == t326) || (!(t346 == t327) || (!(t347 == t328) || (!(t348 == t329) || (!(t349 == t330) || (!(t350 == t331)))))))))) else (some false)) else (some false))) = some true := by rw [if_pos rfl] at H; try exact H
        clear H
        have H := H1
        clear H1
        replace H := Option.bind_eq_some_iff.mp H
        obtain ⟨t353, A1390, H⟩ := H
        replace H : (if t353 = true then (if t351 = 0 then (some (!(t343 == t324) || (!(t344 == t325) || (!(t345 == t326) || (!(t346 == t327) || (!(t347 == t328) || (!(t348 == t329) || (!(t349 == t330) || (!(t350 == t331)))))))))) else (some false)) else (some false)) = some true := H
        have A139 := Aside0.mk A1390
        clear A1390
        by_cases c140 : t353 = true
        ·subst c140
         have H1 : (if t351 = 0 then (some (!(t343 == t324) || (!(t344 == t325) || (!(t345 == t326) || (!(t346 == t327) || (!(t347 == t328) || (!(t348 == t329) || (!(t349 == t330) || (!(t350 == t331)))))))))) else (some false)) = some true := by rw [if_pos rfl] at H; try exact H
         clear H
         have H := H1
         clear H1
         by_cases c141 : t351 = 0
         ·rw [if_pos c141] at H
          have c141b0 : (t351 == 0) = true := beq_iff_eq.mpr c141
          have c141b1 : (t351 != 0) = false := bne_eq_false_iff_eq.mpr c141
          clear c141
          have HT_ := Option.some.inj H
          clear H
          (try (have HT_z_ := HT_; simp only [beq_true, beq_false, true_beq, false_beq, Bool.not_eq_true', Bool.not_eq_false', Bool.not_true, Bool.not_false] at HT_z_))
          go_wp2_with (first | (go_at_call 15; (with_reducible refine (paybooklaw12_awake.calls kj95  true _ ?side1 A139.out).mono ?_); (case side1 => repeat (first | exact (Kd.C_below HRG0.out HB.out) | exact HRG0.out | (with_reducible refine Kd.C_alloc ?_ _) | (with_reducible refine Kd.C_drewN ?_ _) | (with_reducible refine Kd.C_drew ?_))); rintro e w142 ⟨rfl, hb⟩; have n0_ := Aside0.mk (blk_below (g := gb323) (o := .cells #[.int .u8 x324000_21, .int .i64 x324001_21, .int .i64 x324002_21, .int .i64 x324003_21, .int .i64 x324004_21, .int .u8 x324005_21] 28 (0, 0)) (by (with_reducible repeat (first | refine kN ?_ _ | refine kD ?_ | refine kA ?_ _)); exact BK323.out) hb); have n1_ := Aside0.mk (blk_below (g := gb332) (o := .cells #[.int .i64 t324, .int .i64 t325, .int .u8 t326, .int .i64 t327, .int .i64 t328, .int .i64 t329, .int .i64 t330, .bool t331] 25 (0, 0)) (by (with_reducible repeat (first | refine kN ?_ _ | refine kD ?_ | refine kA ?_ _)); exact BK332.out) hb); have n2_ := Aside0.mk (blk_below (g := gb340) (o := .cells #[.int .u8 t333, .int .i64 t334, .int .i64 t335, .int .i64 t336, .int .i64 t337, .int .u8 t338] 28 (0, 0)) (by (with_reducible repeat (first | refine kN ?_ _ | refine kD ?_ | refine kA ?_ _)); exact BK340.out) hb); have n3_ := Aside0.mk (blk_below (g := gb342) (o := .cells #[.int .u8 x324000_21, .int .i64 x324001_21, .int .i64 x324002_21, .int .i64 x324003_21, .int .i64 x324004_21, .int .u8 0] 28 (0, 0)) (by (with_reducible repeat (first | refine kN ?_ _ | refine kD ?_ | refine kA ?_ _)); exact BK342.out) hb); have n4_ := Aside0.mk (blk_below (g := gb352) (o := .cells #[.int .i64 t343, .int .i64 t344, .int .u8 t345, .int .i64 t346, .int .i64 t347, .int .i64 t348, .int .i64 t349, .bool t350] 25 (0, 0)) (by (with_reducible repeat (first | refine kN ?_ _ | refine kD ?_ | refine kA ?_ _)); exact BK352.out) hb); have n5_ := Aside0.mk (below_step (by repeat (first | (with_reducible first | exact HB.out | apply kL | apply kM | apply kE | refine kS ?_ GE323.out | refine kS ?_ GE332.out | refine kS ?_ GE340.out | refine kS ?_ GE342.out | refine kS ?_ GE352.out) | exact HB.out)) hb); clear BK323; clear BK332; clear BK340; clear BK342; clear BK352; clear HB; have BK323 := n0_; have BK332 := n1_; have BK340 := n2_; have BK342 := n3_; have BK352 := n4_; have HB := n5_; clear n0_ n1_ n2_ n3_ n4_ n5_; (try clear hb); (try clear hb2); (try clear hk); (try clear hi)) | ((with_reducible refine gate_callee (f := 15) rfl ?_); refine goesL_ (some 94) rfl rfl Tryd.func15 (by kernel_rfl) rfl #[] rfl (by (try simp only [List.map_toArray, List.map_cons, List.map_nil]); first | done | rfl | (simp only [List.length_drop, List.length_take]; rfl)) ?_; (with_reducible refine (paybooklaw12_awake.calls kj95  true _ ?side1 A139.out).mono ?_); (case side1 => repeat (first | exact (Kd.C_below HRG0.out HB.out) | exact HRG0.out | (with_reducible refine Kd.C_alloc ?_ _) | (with_reducible refine Kd.C_drewN ?_ _) | (with_reducible refine Kd.C_drew ?_))); rintro e w142 ⟨rfl, hb⟩; refine ⟨_, rfl, ?_⟩; have n0_ := Aside0.mk (blk_below (g := gb323) (o := .cells #[.int .u8 x324000_21, .int .i64 x324001_21, .int .i64 x324002_21, .int .i64 x324003_21, .int .i64 x324004_21, .int .u8 x324005_21] 28 (0, 0)) (by (with_reducible repeat (first | refine kN ?_ _ | refine kD ?_ | refine kA ?_ _)); exact BK323.out) hb); have n1_ := Aside0.mk (blk_below (g := gb332) (o := .cells #[.int .i64 t324, .int .i64 t325, .int .u8 t326, .int .i64 t327, .int .i64 t328, .int .i64 t329, .int .i64 t330, .bool t331] 25 (0, 0)) (by (with_reducible repeat (first | refine kN ?_ _ | refine kD ?_ | refine kA ?_ _)); exact BK332.out) hb); have n2_ := Aside0.mk (blk_below (g := gb340) (o := .cells #[.int .u8 t333, .int .i64 t334, .int .i64 t335, .int .i64 t336, .int .i64 t337, .int .u8 t338] 28 (0, 0)) (by (with_reducible repeat (first | refine kN ?_ _ | refine kD ?_ | refine kA ?_ _)); exact BK340.out) hb); have n3_ := Aside0.mk (blk_below (g := gb342) (o := .cells #[.int .u8 x324000_21, .int .i64 x324001_21, .int .i64 x324002_21, .int .i64 x324003_21, .int .i64 x324004_21, .int .u8 0] 28 (0, 0)) (by (with_reducible repeat (first | refine kN ?_ _ | refine kD ?_ | refine kA ?_ _)); exact BK342.out) hb); have n4_ := Aside0.mk (blk_below (g := gb352) (o := .cells #[.int .i64 t343, .int .i64 t344, .int .u8 t345, .int .i64 t346, .int .i64 t347, .int .i64 t348, .int .i64 t349, .bool t350] 25 (0, 0)) (by (with_reducible repeat (first | refine kN ?_ _ | refine kD ?_ | refine kA ?_ _)); exact BK352.out) hb); have n5_ := Aside0.mk (below_step (by repeat (first | (with_reducible first | exact HB.out | apply kL | apply kM | apply kE | refine kS ?_ GE323.out | refine kS ?_ GE332.out | refine kS ?_ GE340.out | refine kS ?_ GE342.out | refine kS ?_ GE352.out) | exact HB.out)) hb); clear BK323; clear BK332; clear BK340; clear BK342; clear BK352; clear HB; have BK323 := n0_; have BK332 := n1_; have BK340 := n2_; have BK342 := n3_; have BK352 := n4_; have HB := n5_; clear n0_ n1_ n2_ n3_ n4_ n5_; (try clear hb); (try clear hb2); (try clear hk); (try clear hi); have hnb143 := NB352_323.out; have hnc143 := NB323_352.out; have hnb144 := NB352_332.out; have hnc144 := NB332_352.out; have hnb145 := NB352_340.out; have hnc145 := NB340_352.out; have hnb146 := NB352_342.out; have hnc146 := NB342_352.out; have hcz147_0 : w142.cell? ⟨gb352, 0, none⟩ = some (.int .i64 t343) := (kC BK352.out 0).trans rfl; have hcz147_1 : w142.cell? ⟨gb352, 1, none⟩ = some (.int .i64 t344) := (kC BK352.out 1).trans rfl; have hcz147_2 : w142.cell? ⟨gb352, 2, none⟩ = some (.int .u8 t345) := (kC BK352.out 2).trans rfl; have hcz147_3 : w142.cell? ⟨gb352, 3, none⟩ = some (.int .i64 t346) := (kC BK352.out 3).trans rfl; have hcz147_4 : w142.cell? ⟨gb352, 4, none⟩ = some (.int .i64 t347) := (kC BK352.out 4).trans rfl; have hcz147_5 : w142.cell? ⟨gb352, 5, none⟩ = some (.int .i64 t348) := (kC BK352.out 5).trans rfl; have hcz147_6 : w142.cell? ⟨gb352, 6, none⟩ = some (.int .i64 t349) := (kC BK352.out 6).trans rfl; have hcz147_7 : w142.cell? ⟨gb352, 7, none⟩ = some (.bool t350) := (kC BK352.out 7).trans rfl; have hfz147_0 := kF BK352.out 0; have hfz147_1 := kF BK352.out 1; have hfz147_2 := kF BK352.out 2; have hfz147_3 := kF BK352.out 3; have hfz147_4 := kF BK352.out 4; have hfz147_5 := kF BK352.out 5; have hfz147_6 := kF BK352.out 6; have hfz147_7 := kF BK352.out 7; have hnb148 := NB332_323.out; have hnc148 := NB323_332.out; have hnb149 := NB332_340.out; have hnc149 := NB340_332.out; have hnb150 := NB332_342.out; have hnc150 := NB342_332.out; have hcz151_0 : w142.cell? ⟨gb332, 0, none⟩ = some (.int .i64 t324) := (kC BK332.out 0).trans rfl; have hcz151_1 : w142.cell? ⟨gb332, 1, none⟩ = some (.int .i64 t325) := (kC BK332.out 1).trans rfl; have hcz151_2 : w142.cell? ⟨gb332, 2, none⟩ = some (.int .u8 t326) := (kC BK332.out 2).trans rfl; have hcz151_3 : w142.cell? ⟨gb332, 3, none⟩ = some (.int .i64 t327) := (kC BK332.out 3).trans rfl; have hcz151_4 : w142.cell? ⟨gb332, 4, none⟩ = some (.int .i64 t328) := (kC BK332.out 4).trans rfl; have hcz151_5 : w142.cell? ⟨gb332, 5, none⟩ = some (.int .i64 t329) := (kC BK332.out 5).trans rfl; have hcz151_6 : w142.cell? ⟨gb332, 6, none⟩ = some (.int .i64 t330) := (kC BK332.out 6).trans rfl; have hcz151_7 : w142.cell? ⟨gb332, 7, none⟩ = some (.bool t331) := (kC BK332.out 7).trans rfl; have hfz151_0 := kF BK332.out 0; have hfz151_1 := kF BK332.out 1; have hfz151_2 := kF BK332.out 2; have hfz151_3 := kF BK332.out 3; have hfz151_4 := kF BK332.out 4; have hfz151_5 := kF BK332.out 5; have hfz151_6 := kF BK332.out 6; have hfz151_7 := kF BK332.out 7))
          go_ret
          exact ⟨by first | rfl | (simp [errW_none, errW_some] <;> rfl) | (simp [*, errW_none, errW_some] <;> rfl), by repeat (first | (with_reducible first | exact HB.out | apply kL | apply kM | apply kE | refine kS ?_ GE323.out | refine kS ?_ GE332.out | refine kS ?_ GE340.out | refine kS ?_ GE342.out | refine kS ?_ GE352.out) | exact HB.out)⟩
         ·rw [if_neg c141] at H
          have c141b0 : (t351 == 0) = false := beq_eq_false_iff_ne.mpr c141
          have c141b1 : (t351 != 0) = true := bne_iff_ne.mpr c141
          exact absurd H (by simp)
        ·replace c140 := Bool.eq_false_iff.mpr c140
         subst c140
         have H1 : (some false) = some true := by rw [if_neg (show ¬ (false = true) by decide)] at H; try exact H
         clear H
         have H := H1
         clear H1
         exact absurd H (by simp)
       ·replace c138 := Bool.eq_false_iff.mpr c138
        subst c138
        have H1 : ((paybooklaw12_awake.f kj95).bind fun t354 => (if t354 = true then (if t351 = 10 then (some (t343 == t324 && (t344 == t325 && (t345 == t326 && (t346 == t327 && (t347 == t328 && (t348 == t329 && (t349 == t330 && (t350 == t331))))))))) else (some false)) else (some false))) = some true := by rw [if_neg (show ¬ (false = true) by decide)] at H; try exact H
        clear H
        have H := H1
        clear H1
        replace H := Option.bind_eq_some_iff.mp H
        obtain ⟨t354, A1520, H⟩ := H
        replace H : (if t354 = true then (if t351 = 10 then (some (t343 == t324 && (t344 == t325 && (t345 == t326 && (t346 == t327 && (t347 == t328 && (t348 == t329 && (t349 == t330 && (t350 == t331))))))))) else (some false)) else (some false)) = some true := H
        have A152 := Aside0.mk A1520
        clear A1520
        by_cases c153 : t354 = true
        ·subst c153
         have H1 : (if t351 = 10 then (some (t343 == t324 && (t344 == t325 && (t345 == t326 && (t346 == t327 && (t347 == t328 && (t348 == t329 && (t349 == t330 && (t350 == t331))))))))) else (some false)) = some true := by rw [if_pos rfl] at H; try exact H
         clear H
         have H := H1
         clear H1
         by_cases c154 : t351 = 10
         ·rw [if_pos c154] at H
          have c154b0 : (t351 == 10) = true := beq_iff_eq.mpr c154
          have c154b1 : (t351 != 10) = false := bne_eq_false_iff_eq.mpr c154
          clear c154
          have HT_ := Option.some.inj H
          clear H
          (try (have HT_z_ := HT_; simp only [beq_true, beq_false, true_beq, false_beq, Bool.not_eq_true', Bool.not_eq_false', Bool.not_true, Bool.not_false] at HT_z_))
          go_wp2_with (first | (go_at_call 15; (with_reducible refine (paybooklaw12_awake.calls kj95  true _ ?side1 A152.out).mono ?_); (case side1 => repeat (first | exact (Kd.C_below HRG0.out HB.out) | exact HRG0.out | (with_reducible refine Kd.C_alloc ?_ _) | (with_reducible refine Kd.C_drewN ?_ _) | (with_reducible refine Kd.C_drew ?_))); rintro e w155 ⟨rfl, hb⟩; have n0_ := Aside0.mk (blk_below (g := gb323) (o := .cells #[.int .u8 x324000_21, .int .i64 x324001_21, .int .i64 x324002_21, .int .i64 x324003_21, .int .i64 x324004_21, .int .u8 x324005_21] 28 (0, 0)) (by (with_reducible repeat (first | refine kN ?_ _ | refine kD ?_ | refine kA ?_ _)); exact BK323.out) hb); have n1_ := Aside0.mk (blk_below (g := gb332) (o := .cells #[.int .i64 t324, .int .i64 t325, .int .u8 t326, .int .i64 t327, .int .i64 t328, .int .i64 t329, .int .i64 t330, .bool t331] 25 (0, 0)) (by (with_reducible repeat (first | refine kN ?_ _ | refine kD ?_ | refine kA ?_ _)); exact BK332.out) hb); have n2_ := Aside0.mk (blk_below (g := gb340) (o := .cells #[.int .u8 t333, .int .i64 t334, .int .i64 t335, .int .i64 t336, .int .i64 t337, .int .u8 t338] 28 (0, 0)) (by (with_reducible repeat (first | refine kN ?_ _ | refine kD ?_ | refine kA ?_ _)); exact BK340.out) hb); have n3_ := Aside0.mk (blk_below (g := gb342) (o := .cells #[.int .u8 x324000_21, .int .i64 x324001_21, .int .i64 x324002_21, .int .i64 x324003_21, .int .i64 x324004_21, .int .u8 0] 28 (0, 0)) (by (with_reducible repeat (first | refine kN ?_ _ | refine kD ?_ | refine kA ?_ _)); exact BK342.out) hb); have n4_ := Aside0.mk (blk_below (g := gb352) (o := .cells #[.int .i64 t343, .int .i64 t344, .int .u8 t345, .int .i64 t346, .int .i64 t347, .int .i64 t348, .int .i64 t349, .bool t350] 25 (0, 0)) (by (with_reducible repeat (first | refine kN ?_ _ | refine kD ?_ | refine kA ?_ _)); exact BK352.out) hb); have n5_ := Aside0.mk (below_step (by repeat (first | (with_reducible first | exact HB.out | apply kL | apply kM | apply kE | refine kS ?_ GE323.out | refine kS ?_ GE332.out | refine kS ?_ GE340.out | refine kS ?_ GE342.out | refine kS ?_ GE352.out) | exact HB.out)) hb); clear BK323; clear BK332; clear BK340; clear BK342; clear BK352; clear HB; have BK323 := n0_; have BK332 := n1_; have BK340 := n2_; have BK342 := n3_; have BK352 := n4_; have HB := n5_; clear n0_ n1_ n2_ n3_ n4_ n5_; (try clear hb); (try clear hb2); (try clear hk); (try clear hi)) | ((with_reducible refine gate_callee (f := 15) rfl ?_); refine goesL_ (some 104) rfl rfl Tryd.func15 (by kernel_rfl) rfl #[] rfl (by (try simp only [List.map_toArray, List.map_cons, List.map_nil]); first | done | rfl | (simp only [List.length_drop, List.length_take]; rfl)) ?_; (with_reducible refine (paybooklaw12_awake.calls kj95  true _ ?side1 A152.out).mono ?_); (case side1 => repeat (first | exact (Kd.C_below HRG0.out HB.out) | exact HRG0.out | (with_reducible refine Kd.C_alloc ?_ _) | (with_reducible refine Kd.C_drewN ?_ _) | (with_reducible refine Kd.C_drew ?_))); rintro e w155 ⟨rfl, hb⟩; refine ⟨_, rfl, ?_⟩; have n0_ := Aside0.mk (blk_below (g := gb323) (o := .cells #[.int .u8 x324000_21, .int .i64 x324001_21, .int .i64 x324002_21, .int .i64 x324003_21, .int .i64 x324004_21, .int .u8 x324005_21] 28 (0, 0)) (by (with_reducible repeat (first | refine kN ?_ _ | refine kD ?_ | refine kA ?_ _)); exact BK323.out) hb); have n1_ := Aside0.mk (blk_below (g := gb332) (o := .cells #[.int .i64 t324, .int .i64 t325, .int .u8 t326, .int .i64 t327, .int .i64 t328, .int .i64 t329, .int .i64 t330, .bool t331] 25 (0, 0)) (by (with_reducible repeat (first | refine kN ?_ _ | refine kD ?_ | refine kA ?_ _)); exact BK332.out) hb); have n2_ := Aside0.mk (blk_below (g := gb340) (o := .cells #[.int .u8 t333, .int .i64 t334, .int .i64 t335, .int .i64 t336, .int .i64 t337, .int .u8 t338] 28 (0, 0)) (by (with_reducible repeat (first | refine kN ?_ _ | refine kD ?_ | refine kA ?_ _)); exact BK340.out) hb); have n3_ := Aside0.mk (blk_below (g := gb342) (o := .cells #[.int .u8 x324000_21, .int .i64 x324001_21, .int .i64 x324002_21, .int .i64 x324003_21, .int .i64 x324004_21, .int .u8 0] 28 (0, 0)) (by (with_reducible repeat (first | refine kN ?_ _ | refine kD ?_ | refine kA ?_ _)); exact BK342.out) hb); have n4_ := Aside0.mk (blk_below (g := gb352) (o := .cells #[.int .i64 t343, .int .i64 t344, .int .u8 t345, .int .i64 t346, .int .i64 t347, .int .i64 t348, .int .i64 t349, .bool t350] 25 (0, 0)) (by (with_reducible repeat (first | refine kN ?_ _ | refine kD ?_ | refine kA ?_ _)); exact BK352.out) hb); have n5_ := Aside0.mk (below_step (by repeat (first | (with_reducible first | exact HB.out | apply kL | apply kM | apply kE | refine kS ?_ GE323.out | refine kS ?_ GE332.out | refine kS ?_ GE340.out | refine kS ?_ GE342.out | refine kS ?_ GE352.out) | exact HB.out)) hb); clear BK323; clear BK332; clear BK340; clear BK342; clear BK352; clear HB; have BK323 := n0_; have BK332 := n1_; have BK340 := n2_; have BK342 := n3_; have BK352 := n4_; have HB := n5_; clear n0_ n1_ n2_ n3_ n4_ n5_; (try clear hb); (try clear hb2); (try clear hk); (try clear hi); have hnb156 := NB352_323.out; have hnc156 := NB323_352.out; have hnb157 := NB352_332.out; have hnc157 := NB332_352.out; have hnb158 := NB352_340.out; have hnc158 := NB340_352.out; have hnb159 := NB352_342.out; have hnc159 := NB342_352.out; have hcz160_0 : w155.cell? ⟨gb352, 0, none⟩ = some (.int .i64 t343) := (kC BK352.out 0).trans rfl; have hcz160_1 : w155.cell? ⟨gb352, 1, none⟩ = some (.int .i64 t344) := (kC BK352.out 1).trans rfl; have hcz160_2 : w155.cell? ⟨gb352, 2, none⟩ = some (.int .u8 t345) := (kC BK352.out 2).trans rfl; have hcz160_3 : w155.cell? ⟨gb352, 3, none⟩ = some (.int .i64 t346) := (kC BK352.out 3).trans rfl; have hcz160_4 : w155.cell? ⟨gb352, 4, none⟩ = some (.int .i64 t347) := (kC BK352.out 4).trans rfl; have hcz160_5 : w155.cell? ⟨gb352, 5, none⟩ = some (.int .i64 t348) := (kC BK352.out 5).trans rfl; have hcz160_6 : w155.cell? ⟨gb352, 6, none⟩ = some (.int .i64 t349) := (kC BK352.out 6).trans rfl; have hcz160_7 : w155.cell? ⟨gb352, 7, none⟩ = some (.bool t350) := (kC BK352.out 7).trans rfl; have hfz160_0 := kF BK352.out 0; have hfz160_1 := kF BK352.out 1; have hfz160_2 := kF BK352.out 2; have hfz160_3 := kF BK352.out 3; have hfz160_4 := kF BK352.out 4; have hfz160_5 := kF BK352.out 5; have hfz160_6 := kF BK352.out 6; have hfz160_7 := kF BK352.out 7; have hnb161 := NB332_323.out; have hnc161 := NB323_332.out; have hnb162 := NB332_340.out; have hnc162 := NB340_332.out; have hnb163 := NB332_342.out; have hnc163 := NB342_332.out; have hcz164_0 : w155.cell? ⟨gb332, 0, none⟩ = some (.int .i64 t324) := (kC BK332.out 0).trans rfl; have hcz164_1 : w155.cell? ⟨gb332, 1, none⟩ = some (.int .i64 t325) := (kC BK332.out 1).trans rfl; have hcz164_2 : w155.cell? ⟨gb332, 2, none⟩ = some (.int .u8 t326) := (kC BK332.out 2).trans rfl; have hcz164_3 : w155.cell? ⟨gb332, 3, none⟩ = some (.int .i64 t327) := (kC BK332.out 3).trans rfl; have hcz164_4 : w155.cell? ⟨gb332, 4, none⟩ = some (.int .i64 t328) := (kC BK332.out 4).trans rfl; have hcz164_5 : w155.cell? ⟨gb332, 5, none⟩ = some (.int .i64 t329) := (kC BK332.out 5).trans rfl; have hcz164_6 : w155.cell? ⟨gb332, 6, none⟩ = some (.int .i64 t330) := (kC BK332.out 6).trans rfl; have hcz164_7 : w155.cell? ⟨gb332, 7, none⟩ = some (.bool t331) := (kC BK332.out 7).trans rfl; have hfz164_0 := kF BK332.out 0; have hfz164_1 := kF BK332.out 1; have hfz164_2 := kF BK332.out 2; have hfz164_3 := kF BK332.out 3; have hfz164_4 := kF BK332.out 4; have hfz164_5 := kF BK332.out 5; have hfz164_6 := kF BK332.out 6; have hfz164_7 := kF BK332.out 7))
          go_ret
          exact ⟨by first | rfl | (simp [errW_none, errW_some] <;> rfl) | (simp [*, errW_none, errW_some] <;> rfl), by repeat (first | (with_reducible first | exact HB.out | apply kL | apply kM | apply kE | refine kS ?_ GE323.out | refine kS ?_ GE332.out | refine kS ?_ GE340.out | refine kS ?_ GE342.out | refine kS ?_ GE352.out) | exact HB.out)⟩
         ·rw [if_neg c154] at H
          have c154b0 : (t351 == 10) = false := beq_eq_false_iff_ne.mpr c154
          have c154b1 : (t351 != 10) = true := bne_iff_ne.mpr c154
          exact absurd H (by simp)
        ·replace c153 := Bool.eq_false_iff.mpr c153
         subst c153
         have H1 : (some false) = some true := by rw [if_neg (show ¬ (false = true) by decide)] at H; try exact H
         clear H
         have H := H1
         clear H1
         exact absurd H (by simp)

/-- THE ONE PURE STATEMENT of paybooklaw12_CycleOld: yours. -/
def paybooklaw12_CycleOld.Pure : Prop := ∀ (a0 : Int) (a1 : Int) (a2 : Int) (a3_0 : Int) (a3_1 : Int) (a3_2 : Int) (a3_3 : Int) (a3_4 : Int) (a3_5 : Int) (a4 : Int) (a5 : Int) (a6 : Bool), (Lit.int .u8 a0).wf = true → (Lit.int .u32 a1).wf = true → (Lit.int .u8 a2).wf = true → (Lit.int .u8 a3_0).wf = true → (Lit.int .i64 a3_1).wf = true → (Lit.int .i64 a3_2).wf = true → (Lit.int .i64 a3_3).wf = true → (Lit.int .i64 a3_4).wf = true → (Lit.int .u8 a3_5).wf = true → (Lit.int .u8 a4).wf = true → (Lit.int .u16 a5).wf = true → ∃ k, paybooklaw12_CycleOld.f k a0 a1 a2 a3_0 a3_1 a3_2 a3_3 a3_4 a3_5 a4 a5 a6 = some true
theorem paybooklaw12_CycleOld.walk (P : paybooklaw12_CycleOld.Pure) (a0 : Int) (a1 : Int) (a2 : Int) (a3_0 : Int) (a3_1 : Int) (a3_2 : Int) (a3_3 : Int) (a3_4 : Int) (a3_5 : Int) (a4 : Int) (a5 : Int) (a6 : Bool) (w : World) (w0 : (Lit.int .u8 a0).wf = true) (w1 : (Lit.int .u32 a1).wf = true) (w2 : (Lit.int .u8 a2).wf = true) (w3_0 : (Lit.int .u8 a3_0).wf = true) (w3_1 : (Lit.int .i64 a3_1).wf = true) (w3_2 : (Lit.int .i64 a3_2).wf = true) (w3_3 : (Lit.int .i64 a3_3).wf = true) (w3_4 : (Lit.int .i64 a3_4).wf = true) (w3_5 : (Lit.int .u8 a3_5).wf = true) (w4 : (Lit.int .u8 a4).wf = true) (w5 : (Lit.int .u16 a5).wf = true) (hrG0 : Kd.C (Kd.int .i64) w (some ⟨0, 0, none⟩) 3 gl0) :
  Calls Tryd.prog 5 #[.int .u8 a0, .int .u32 a1, .int .u8 a2, .agg #[.int .u8 a3_0, .int .i64 a3_1, .int .i64 a3_2, .int .i64 a3_3, .int .i64 a3_4, .int .u8 a3_5], .int .u8 a4, .int .u16 a5, .bool a6] w fun e w' => e = .returned (.bool true) ∧ Below w.heap.size w w' := by
 obtain ⟨k, h⟩ := P a0 a1 a2 a3_0 a3_1 a3_2 a3_3 a3_4 a3_5 a4 a5 a6 w0 w1 w2 w3_0 w3_1 w3_2 w3_3 w3_4 w3_5 w4 w5
 refine (paybooklaw12_CycleOld.calls k a0 a1 a2 a3_0 a3_1 a3_2 a3_3 a3_4 a3_5 a4 a5 a6 w hrG0 h).mono ?_
 rintro e w' ⟨rfl, hd⟩
 exact ⟨rfl, hd⟩

end Go.Proofs.YtlfaaogifplgeaaDoor.PA
