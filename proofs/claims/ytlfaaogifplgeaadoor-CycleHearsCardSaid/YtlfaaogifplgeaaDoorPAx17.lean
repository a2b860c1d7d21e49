-- printed by this workplace: wip/patchprint.py over the kit's print
import Derived.Test.YtlfaaogifplgeaaDoorPAx0
import Derived.Test.YtlfaaogifplgeaaDoorPAx2
import Derived.Test.YtlfaaogifplgeaaDoorPAx6
import Derived.Test.YtlfaaogifplgeaaDoorPAx16
namespace Go.Proofs.YtlfaaogifplgeaaDoor.PA
open Go.RowKit Go.Proofs.YtlfaaogifplgeaaDoorW.PrintWords Go.Proofs.YtlfaaogifplgeaaDoorW.PrintLast Go.Proofs.YtlfaaogifplgeaaDoorW.PrintMore
attribute [local go_sem] max2_int min2_int max_two min_two max_three min_three max_four min_four   -- for this text's walks alone
set_option linter.unusedVariables false
set_option linter.unusedSimpArgs false

attribute [local go_sem high] eqA28
/-! ### paybookref12_Hear: function 19 -/
mutual
def paybookref12_Hear.j0 : Nat → Int → Bool → Bool → Int → Int → Int → Int → Int → Int → Int → Bool → Int → Int → Int → Int → Int → Int → Option (Int × Int × Int × Int × Int × Int × Int × Bool × Bool)
 | 0, _, _, _, _, _, _, _, _, _, _, _, _, _, _, _, _, _ => none
 | k + 1, x3, x4, x36, x274000, x274001, x274002, x274003, x274004, x274005, x274006, x274007, x275000, x275001, x275002, x275003, x275004, x275005 => if x36 = true then (some (x274000, x274001, x274002, x274003, x274004, x274005, x274006, x274007, false)) else (if x274002 = 1 then (if x275005 = 1 then (paybookref12_Hear.j1 k x3 x4 (x275005 == 1) x4 x274000 x274001 8 x274003 x274004 x274005 x274006 x274007 x275000 x275001 x275002 x275003 x275004 x275005) else (paybookref12_Hear.j1 k x3 x4 (x275005 == 1) false x274000 x274001 8 x274003 x274004 x274005 x274006 x274007 x275000 x275001 x275002 x275003 x275004 x275005)) else (if x274002 = 3 then (if x275005 = 1 then (if x4 = true then (some (x274000, x274001, 5, x274003, x274004, x274005, x274006, x274007, true)) else (some (x274000, x274001, 4, x274003, x274004, x274005, x274006, x274007, true))) else ((paybookref12_back.f x274000 x274001 x274002 x274003 x274004 x274005 x274006 x274007).bind fun bt299 => (some (bt299.1, bt299.2.1, bt299.2.2.1, bt299.2.2.2.1, bt299.2.2.2.2.1, bt299.2.2.2.2.2.1, bt299.2.2.2.2.2.2.1, bt299.2.2.2.2.2.2.2, true)))) else (if x274002 = 4 then (if x275005 = 1 then (some (x274000, x274001, 7, x274003, x274004, x274005, x274006, x274007, true)) else (some (x274000, x274001, 5, x274003, x274004, x274005, x274006, x274007, true))) else (if x274002 = 5 then ((paybookref12_back.f x274000 x274001 x274002 x274003 x274004 x274005 x274006 x274007).bind fun bt307 => (some (bt307.1, bt307.2.1, bt307.2.2.1, bt307.2.2.2.1, bt307.2.2.2.2.1, bt307.2.2.2.2.2.1, bt307.2.2.2.2.2.2.1, bt307.2.2.2.2.2.2.2, true))) else (some (x274000, x274001, 9, x274003, x274004, x274005, x274006, x274007, true))))))
def paybookref12_Hear.j1 : Nat → Int → Bool → Bool → Bool → Int → Int → Int → Int → Int → Int → Int → Bool → Int → Int → Int → Int → Int → Int → Option (Int × Int × Int × Int × Int × Int × Int × Bool × Bool)
 | 0, _, _, _, _, _, _, _, _, _, _, _, _, _, _, _, _, _, _ => none
 | k + 1, x3, x4, x14, x51, x274000, x274001, x274002, x274003, x274004, x274005, x274006, x274007, x275000, x275001, x275002, x275003, x275004, x275005 => if x51 = true then ((paybookref12_back.f x274000 x274001 x274002 x274003 x274004 x274005 x274006 x274007).bind fun bt284 => (some (bt284.1, bt284.2.1, bt284.2.2.1, bt284.2.2.2.1, bt284.2.2.2.2.1, bt284.2.2.2.2.2.1, bt284.2.2.2.2.2.2.1, bt284.2.2.2.2.2.2.2, true))) else (if x14 = true then (paybookref12_Hear.j2 k x3 x4 x14 x274007 x274000 x274001 x274002 x274003 x274004 x274005 x274006 x274007 x275000 x275001 x275002 x275003 x275004 x275005) else (paybookref12_Hear.j2 k x3 x4 x14 false x274000 x274001 x274002 x274003 x274004 x274005 x274006 x274007 x275000 x275001 x275002 x275003 x275004 x275005))
def paybookref12_Hear.j2 : Nat → Int → Bool → Bool → Bool → Int → Int → Int → Int → Int → Int → Int → Bool → Int → Int → Int → Int → Int → Int → Option (Int × Int × Int × Int × Int × Int × Int × Bool × Bool)
 | 0, _, _, _, _, _, _, _, _, _, _, _, _, _, _, _, _, _, _ => none
 | k + 1, x3, x4, x14, x58, x274000, x274001, x274002, x274003, x274004, x274005, x274006, x274007, x275000, x275001, x275002, x275003, x275004, x275005 => if x58 = true then (some (x274000, x274001, 3, x274003, x274004, x274005, x274006, x274007, true)) else (if x14 = true then (some (x274000, x274001, 7, x274003, x274004, x274005, x274006, x274007, true)) else (if x275005 = 2 then (if x4 = true then (some (x274000, x274001, x274002, x274003, x274004, x274005, x274006, x274007, true)) else ((paybookref12_Steps.f).bind fun t292 => (if x274005 ≤ (t292.length : Int) then ((paybookref12_Steps.f).bind fun t295 => (if 0 ≤ (wrap64 (x274005 - 1)) then (if (wrap64 (x274005 - 1)) < (t295.length : Int) then (some (x274000, x274001, 2, x274003, x274004, x274005, wrap64 (x3 + (rd t295 (wrap64 (x274005 - 1)))), x274007, true)) else (none)) else (none))) else (some (x274000, x274001, x274002, x274003, x274004, x274005, x274006, x274007, true))))) else (some (x274000, x274001, x274002, x274003, x274004, x274005, x274006, x274007, true))))
end
def paybookref12_Hear.f (k : Nat) (a0 : Int) (a1_0 : Int) (a1_1 : Int) (a1_2 : Int) (a1_3 : Int) (a1_4 : Int) (a1_5 : Int) (a1_6 : Int) (a1_7 : Bool) (a2_0 : Int) (a2_1 : Int) (a2_2 : Int) (a2_3 : Int) (a2_4 : Int) (a2_5 : Int) (a3 : Int) (a4 : Bool) : Option (Int × Int × Int × Int × Int × Int × Int × Bool × Bool) := (paybookref12_Asks.f a0 a1_0 a1_1 a1_2 a1_3 a1_4 a1_5 a1_6 a1_7).bind fun bt276 => (if bt276.2.2.2.2.2.2 = true then (if a2_5 = 0 then (paybookref12_Hear.j0 k a3 a4 true a1_0 a1_1 a1_2 a1_3 a1_4 a1_5 a1_6 a1_7 a2_0 a2_1 a2_2 a2_3 a2_4 a2_5) else (paybookref12_Hear.j0 k a3 a4 (!(bt276.1 == a2_0) || (!(bt276.2.1 == a2_1) || (!(bt276.2.2.1 == a2_2) || (!(bt276.2.2.2.1 == a2_3) || (!(bt276.2.2.2.2.1 == a2_4)))))) a1_0 a1_1 a1_2 a1_3 a1_4 a1_5 a1_6 a1_7 a2_0 a2_1 a2_2 a2_3 a2_4 a2_5)) else (paybookref12_Hear.j0 k a3 a4 true a1_0 a1_1 a1_2 a1_3 a1_4 a1_5 a1_6 a1_7 a2_0 a2_1 a2_2 a2_3 a2_4 a2_5))
theorem paybookref12_Hear.mono_l : ∀ k, (∀ y0 y1 y2 y3 y4 y5 y6 y7 y8 y9 y10 y11 y12 y13 y14 y15 y16, LeO (paybookref12_Hear.j0 k y0 y1 y2 y3 y4 y5 y6 y7 y8 y9 y10 y11 y12 y13 y14 y15 y16) (paybookref12_Hear.j0 (k + 1) y0 y1 y2 y3 y4 y5 y6 y7 y8 y9 y10 y11 y12 y13 y14 y15 y16)) ∧ (∀ y0 y1 y2 y3 y4 y5 y6 y7 y8 y9 y10 y11 y12 y13 y14 y15 y16 y17, LeO (paybookref12_Hear.j1 k y0 y1 y2 y3 y4 y5 y6 y7 y8 y9 y10 y11 y12 y13 y14 y15 y16 y17) (paybookref12_Hear.j1 (k + 1) y0 y1 y2 y3 y4 y5 y6 y7 y8 y9 y10 y11 y12 y13 y14 y15 y16 y17)) ∧ (∀ y0 y1 y2 y3 y4 y5 y6 y7 y8 y9 y10 y11 y12 y13 y14 y15 y16 y17, LeO (paybookref12_Hear.j2 k y0 y1 y2 y3 y4 y5 y6 y7 y8 y9 y10 y11 y12 y13 y14 y15 y16 y17) (paybookref12_Hear.j2 (k + 1) y0 y1 y2 y3 y4 y5 y6 y7 y8 y9 y10 y11 y12 y13 y14 y15 y16 y17))
 | 0 => ⟨fun _ _ _ _ _ _ _ _ _ _ _ _ _ _ _ _ _ r h => by simp [paybookref12_Hear.j0] at h, fun _ _ _ _ _ _ _ _ _ _ _ _ _ _ _ _ _ _ r h => by simp [paybookref12_Hear.j1] at h, fun _ _ _ _ _ _ _ _ _ _ _ _ _ _ _ _ _ _ r h => by simp [paybookref12_Hear.j2] at h⟩
 | k + 1 => by
  obtain ⟨ih0, ih1, ih2⟩ := paybookref12_Hear.mono_l k
  refine ⟨?_, ?_, ?_⟩
  ·intro y0 y1 y2 y3 y4 y5 y6 y7 y8 y9 y10 y11 y12 y13 y14 y15 y16
   unfold paybookref12_Hear.j0
   repeat' first
   | (with_reducible exact ih0 _ _ _ _ _ _ _ _ _ _ _ _ _ _ _ _ _)
   | (with_reducible exact ih1 _ _ _ _ _ _ _ _ _ _ _ _ _ _ _ _ _ _)
   | (with_reducible exact ih2 _ _ _ _ _ _ _ _ _ _ _ _ _ _ _ _ _ _)
   | (with_reducible exact LeO.refl _)
   | (with_reducible exact LeO.none _)
   | (with_reducible refine LeO.ite ?_ ?_)
   | (with_reducible refine LeO.bind ?_ (fun _ => ?_))
   | exact ih0 _ _ _ _ _ _ _ _ _ _ _ _ _ _ _ _ _
   | exact ih1 _ _ _ _ _ _ _ _ _ _ _ _ _ _ _ _ _ _
   | exact ih2 _ _ _ _ _ _ _ _ _ _ _ _ _ _ _ _ _ _
   | exact LeO.none _
   | refine LeO.ite ?_ ?_
   | refine LeO.bind ?_ (fun _ => ?_)
  ·intro y0 y1 y2 y3 y4 y5 y6 y7 y8 y9 y10 y11 y12 y13 y14 y15 y16 y17
   unfold paybookref12_Hear.j1
   repeat' first
   | (with_reducible exact ih0 _ _ _ _ _ _ _ _ _ _ _ _ _ _ _ _ _)
   | (with_reducible exact ih1 _ _ _ _ _ _ _ _ _ _ _ _ _ _ _ _ _ _)
   | (with_reducible exact ih2 _ _ _ _ _ _ _ _ _ _ _ _ _ _ _ _ _ _)
   | (with_reducible exact LeO.refl _)
   | (with_reducible exact LeO.none _)
   | (with_reducible refine LeO.ite ?_ ?_)
   | (with_reducible refine LeO.bind ?_ (fun _ => ?_))
   | exact ih0 _ _ _ _ _ _ _ _ _ _ _ _ _ _ _ _ _
   | exact ih1 _ _ _ _ _ _ _ _ _ _ _ _ _ _ _ _ _ _
   | exact ih2 _ _ _ _ _ _ _ _ _ _ _ _ _ _ _ _ _ _
   | exact LeO.none _
   | refine LeO.ite ?_ ?_
   | refine LeO.bind ?_ (fun _ => ?_)
  ·intro y0 y1 y2 y3 y4 y5 y6 y7 y8 y9 y10 y11 y12 y13 y14 y15 y16 y17
   unfold paybookref12_Hear.j2
   repeat' first
   | (with_reducible exact ih0 _ _ _ _ _ _ _ _ _ _ _ _ _ _ _ _ _)
   | (with_reducible exact ih1 _ _ _ _ _ _ _ _ _ _ _ _ _ _ _ _ _ _)
   | (with_reducible exact ih2 _ _ _ _ _ _ _ _ _ _ _ _ _ _ _ _ _ _)
   | (with_reducible exact LeO.refl _)
   | (with_reducible exact LeO.none _)
   | (with_reducible refine LeO.ite ?_ ?_)
   | (with_reducible refine LeO.bind ?_ (fun _ => ?_))
   | exact ih0 _ _ _ _ _ _ _ _ _ _ _ _ _ _ _ _ _
   | exact ih1 _ _ _ _ _ _ _ _ _ _ _ _ _ _ _ _ _ _
   | exact ih2 _ _ _ _ _ _ _ _ _ _ _ _ _ _ _ _ _ _
   | exact LeO.none _
   | refine LeO.ite ?_ ?_
   | refine LeO.bind ?_ (fun _ => ?_)
theorem paybookref12_Hear.mono : ∀ a0 a1 a2 a3 a4 a5 a6 a7 a8 a9 a10 a11 a12 a13 a14 a15 a16 k, LeO (paybookref12_Hear.f k a0 a1 a2 a3 a4 a5 a6 a7 a8 a9 a10 a11 a12 a13 a14 a15 a16) (paybookref12_Hear.f (k + 1) a0 a1 a2 a3 a4 a5 a6 a7 a8 a9 a10 a11 a12 a13 a14 a15 a16) := by
 intro a0 a1 a2 a3 a4 a5 a6 a7 a8 a9 a10 a11 a12 a13 a14 a15 a16 k
 obtain ⟨ih0, ih1, ih2⟩ := paybookref12_Hear.mono_l k
 unfold paybookref12_Hear.f
 repeat' first
   | (with_reducible exact ih0 _ _ _ _ _ _ _ _ _ _ _ _ _ _ _ _ _)
   | (with_reducible exact ih1 _ _ _ _ _ _ _ _ _ _ _ _ _ _ _ _ _ _)
   | (with_reducible exact ih2 _ _ _ _ _ _ _ _ _ _ _ _ _ _ _ _ _ _)
   | (with_reducible exact LeO.refl _)
   | (with_reducible exact LeO.none _)
   | (with_reducible refine LeO.ite ?_ ?_)
   | (with_reducible refine LeO.bind ?_ (fun _ => ?_))
   | exact ih0 _ _ _ _ _ _ _ _ _ _ _ _ _ _ _ _ _
   | exact ih1 _ _ _ _ _ _ _ _ _ _ _ _ _ _ _ _ _ _
   | exact ih2 _ _ _ _ _ _ _ _ _ _ _ _ _ _ _ _ _ _
   | exact LeO.none _
   | refine LeO.ite ?_ ?_
   | refine LeO.bind ?_ (fun _ => ?_)
def paybookref12_Hear.T17 : Bool × List (List Nat × List Nat) := (true, [([], []), ([0], [0]), ([1], [1]), ([2], [2]), ([3], [3]), ([4, 3], [3, 4]), ([3, 5], [3, 5]), ([6, 3], [6]), ([7], [7]), ([8, 7], [7, 8]), ([7, 7], [7]), ([10, 7], [7, 10]), ([9, 11, 7], [7, 9, 11]), ([7, 12], [7, 12])])
def paybookref12_Hear.B17 : List Nat := [0, 1, 3, 7, 15, 31, 63, 127, 255, 511, 255, 1279, 4095, 8191]
theorem paybookref12_Hear.tab17 : rtab .any (opsOf Tryd.f19 17) = paybookref12_Hear.T17 := by kernel_rfl
theorem paybookref12_Hear.bits17 : waitsOk paybookref12_Hear.T17.2 paybookref12_Hear.B17 = true := by kernel_rfl
def paybookref12_Hear.T19 : Bool × List (List Nat × List Nat) := (true, [([], []), ([], []), ([], []), ([2], [2]), ([3], [3]), ([1, 4], [1, 4]), ([5], [5]), ([0, 6], [0, 6]), ([0, 1, 2, 3, 4, 5, 6, 7], []), ([8, 7, 1, 0, 1, 2, 3, 4, 5, 6, 7], [7, 8])])
def paybookref12_Hear.B19 : List Nat := [0, 0, 0, 4, 12, 30, 62, 127, 255, 511]
theorem paybookref12_Hear.tab19 : rtab .any (opsOf Tryd.f19 19) = paybookref12_Hear.T19 := by kernel_rfl
theorem paybookref12_Hear.bits19 : waitsOk paybookref12_Hear.T19.2 paybookref12_Hear.B19 = true := by kernel_rfl
set_option maxHeartbeats 40000000 in
set_option maxRecDepth 100000 in
theorem paybookref12_Hear.calls (k : Nat) (a0 : Int) (a1_0 : Int) (a1_1 : Int) (a1_2 : Int) (a1_3 : Int) (a1_4 : Int) (a1_5 : Int) (a1_6 : Int) (a1_7 : Bool) (a2_0 : Int) (a2_1 : Int) (a2_2 : Int) (a2_3 : Int) (a2_4 : Int) (a2_5 : Int) (a3 : Int) (a4 : Bool) (r1 : Int) (r2 : Int) (r3 : Int) (r4 : Int) (r5 : Int) (r6 : Int) (r7 : Int) (r8 : Bool) (r9 : Bool) (w : World) (h : paybookref12_Hear.f k a0 a1_0 a1_1 a1_2 a1_3 a1_4 a1_5 a1_6 a1_7 a2_0 a2_1 a2_2 a2_3 a2_4 a2_5 a3 a4 = some (r1, r2, r3, r4, r5, r6, r7, r8, r9)) :
  Calls Tryd.prog 19 #[.int .i64 a0, .agg #[.int .i64 a1_0, .int .i64 a1_1, .int .u8 a1_2, .int .i64 a1_3, .int .i64 a1_4, .int .i64 a1_5, .int .i64 a1_6, .bool a1_7], .agg #[.int .u8 a2_0, .int .i64 a2_1, .int .i64 a2_2, .int .i64 a2_3, .int .i64 a2_4, .int .u8 a2_5], .int .i64 a3, .bool a4] w fun e w' => e = .returned (.tuple #[.agg #[.int .i64 r1, .int .i64 r2, .int .u8 r3, .int .i64 r4, .int .i64 r5, .int .i64 r6, .int .i64 r7, .bool r8], .bool r9]) ∧ Below w.heap.size w w' := by
 have hu32 := Tryd.underlying32
 have hu28 := Tryd.underlying28
 have HB := Aside0.mk (Below.refl w.heap.size w)
 have H : ((paybookref12_Asks.f a0 a1_0 a1_1 a1_2 a1_3 a1_4 a1_5 a1_6 a1_7).bind fun bt276 => (if bt276.2.2.2.2.2.2 = true then (if a2_5 = 0 then (paybookref12_Hear.j0 k a3 a4 true a1_0 a1_1 a1_2 a1_3 a1_4 a1_5 a1_6 a1_7 a2_0 a2_1 a2_2 a2_3 a2_4 a2_5) else (paybookref12_Hear.j0 k a3 a4 (!(bt276.1 == a2_0) || (!(bt276.2.1 == a2_1) || (!(bt276.2.2.1 == a2_2) || (!(bt276.2.2.2.1 == a2_3) || (!(bt276.2.2.2.2.1 == a2_4)))))) a1_0 a1_1 a1_2 a1_3 a1_4 a1_5 a1_6 a1_7 a2_0 a2_1 a2_2 a2_3 a2_4 a2_5)) else (paybookref12_Hear.j0 k a3 a4 true a1_0 a1_1 a1_2 a1_3 a1_4 a1_5 a1_6 a1_7 a2_0 a2_1 a2_2 a2_3 a2_4 a2_5))) = some (r1, r2, r3, r4, r5, r6, r7, r8, r9) := h
 clear h
 replace H := Option.bind_eq_some_iff.mp H
 obtain ⟨⟨t276, t277, t278, t279, t280, t281, t282⟩, A60, H⟩ := H
 replace H : (if t282 = true then (if a2_5 = 0 then (paybookref12_Hear.j0 k a3 a4 true a1_0 a1_1 a1_2 a1_3 a1_4 a1_5 a1_6 a1_7 a2_0 a2_1 a2_2 a2_3 a2_4 a2_5) else (paybookref12_Hear.j0 k a3 a4 (!(t276 == a2_0) || (!(t277 == a2_1) || (!(t278 == a2_2) || (!(t279 == a2_3) || (!(t280 == a2_4)))))) a1_0 a1_1 a1_2 a1_3 a1_4 a1_5 a1_6 a1_7 a2_0 a2_1 a2_2 a2_3 a2_4 a2_5)) else (paybookref12_Hear.j0 k a3 a4 true a1_0 a1_1 a1_2 a1_3 a1_4 a1_5 a1_6 a1_7 a2_0 a2_1 a2_2 a2_3 a2_4 a2_5)) = some (r1, r2, r3, r4, r5, r6, r7, r8, r9) := H
 have A6 := Aside0.mk A60
 clear A60
 have HC7 := Aside0.mk H
 clear H
 go_enter Tryd.func19, Tryd.ntmps19
 go_upto_region 3 with (first | ((with_reducible refine gate_dst (N := 6) rfl ?_); (try (refine gate_guard (by rfl) ?_; dsimp only)); refine box_event ?hg (N := 6) ?hd (cs := #[.int .i64 a1_0, .int .i64 a1_1, .int .u8 a1_2, .int .i64 a1_3, .int .i64 a1_4, .int .i64 a1_5, .int .i64 a1_6, .bool a1_7]) (t := 32) ?hr ?_; (case hd => rfl); (case hg => rfl); (case hr => first | (go_simp; done) | (go_simp; rfl)); intro gb273 hg w8 hbox hb; have n0_ := Aside0.mk (below_step (by repeat (first | (with_reducible first | exact HB.out | apply kL | apply kM | apply kE) | exact HB.out)) hb); have n1_ := Aside0.mk (hbox); have n2_ := Aside0.mk ((by rw [hg]; exact (below_size (by repeat (first | (with_reducible first | exact HB.out | apply kL | apply kM | apply kE) | exact HB.out))) : w.heap.size ≤ gb273)); have n3_ := Aside0.mk ((by rw [hg]; exact (below_size (by repeat (first | (with_reducible first | exact HB.out | apply kL | apply kM | apply kE) | exact HB.out))) : w.heap.size ≤ gb273)); clear HB; have HB := n0_; have BK273 := n1_; have GW273 := n2_; have GE273 := n3_; clear n0_ n1_ n2_ n3_; clear hb hbox hg) | ((with_reducible refine gate_dst (N := 7) rfl ?_); (try (refine gate_guard (by rfl) ?_; dsimp only)); refine box_event ?hg (N := 7) ?hd (cs := #[.int .u8 a2_0, .int .i64 a2_1, .int .i64 a2_2, .int .i64 a2_3, .int .i64 a2_4, .int .u8 a2_5]) (t := 28) ?hr ?_; (case hd => rfl); (case hg => rfl); (case hr => first | (go_simp; done) | (go_simp; rfl)); intro gb274 hg w9 hbox hb; have n0_ := Aside0.mk (blk_below (g := gb273) (o := .cells #[.int .i64 a1_0, .int .i64 a1_1, .int .u8 a1_2, .int .i64 a1_3, .int .i64 a1_4, .int .i64 a1_5, .int .i64 a1_6, .bool a1_7] 32 (0, 0)) (by (with_reducible repeat (first | refine kN ?_ _ | refine kD ?_ | refine kA ?_ _)); exact BK273.out) hb); have n1_ := Aside0.mk (below_step (by repeat (first | (with_reducible first | exact HB.out | apply kL | apply kM | apply kE | refine kS ?_ GE273.out) | exact HB.out)) hb); have n2_ := Aside0.mk (hbox); have n3_ := Aside0.mk ((by rw [hg]; exact (below_size (by repeat (first | (with_reducible first | exact HB.out | apply kL | apply kM | apply kE | refine kS ?_ GE273.out) | exact HB.out))) : w.heap.size ≤ gb274)); have n4_ := Aside0.mk ((by rw [hg]; exact (below_size (by repeat (first | (with_reducible first | exact HB.out | apply kL | apply kM | apply kE | refine kS ?_ GE273.out) | exact HB.out))) : w.heap.size ≤ gb274)); have n5_ := Aside0.mk ((by rw [hg]; exact Nat.ne_of_lt (blk_lt (g := gb273) (o := .cells #[.int .i64 a1_0, .int .i64 a1_1, .int .u8 a1_2, .int .i64 a1_3, .int .i64 a1_4, .int .i64 a1_5, .int .i64 a1_6, .bool a1_7] 32 (0, 0)) (by (with_reducible repeat (first | refine kN ?_ _ | refine kD ?_ | refine kA ?_ _)); exact BK273.out)) : gb273 ≠ gb274)); have n6_ := Aside0.mk ((by rw [hg]; exact Nat.ne_of_gt (blk_lt (g := gb273) (o := .cells #[.int .i64 a1_0, .int .i64 a1_1, .int .u8 a1_2, .int .i64 a1_3, .int .i64 a1_4, .int .i64 a1_5, .int .i64 a1_6, .bool a1_7] 32 (0, 0)) (by (with_reducible repeat (first | refine kN ?_ _ | refine kD ?_ | refine kA ?_ _)); exact BK273.out)) : gb274 ≠ gb273)); clear BK273; clear HB; have BK273 := n0_; have HB := n1_; have BK274 := n2_; have GW274 := n3_; have GE274 := n4_; have NB273_274 := n5_; have NB274_273 := n6_; clear n0_ n1_ n2_ n3_ n4_ n5_ n6_; clear hb hbox hg) | ((with_reducible refine gate_dst (N := 10) rfl ?_); (try (refine gate_guard (by rfl) ?_; dsimp only)); refine box_event ?hg (N := 10) ?hd (cs := #[.int .i64 0, .int .i64 0, .int .u8 0, .int .i64 0, .int .i64 0, .int .i64 0, .int .i64 0, .bool false]) (t := 32) ?hr ?_; (case hd => rfl); (case hg => rfl); (case hr => first | (go_simp; done) | (go_simp; rfl)); intro gb275 hg w10 hbox hb; have n0_ := Aside0.mk (blk_below (g := gb273) (o := .cells #[.int .i64 a1_0, .int .i64 a1_1, .int .u8 a1_2, .int .i64 a1_3, .int .i64 a1_4, .int .i64 a1_5, .int .i64 a1_6, .bool a1_7] 32 (0, 0)) (by (with_reducible repeat (first | refine kN ?_ _ | refine kD ?_ | refine kA ?_ _)); exact BK273.out) hb); have n1_ := Aside0.mk (blk_below (g := gb274) (o := .cells #[.int .u8 a2_0, .int .i64 a2_1, .int .i64 a2_2, .int .i64 a2_3, .int .i64 a2_4, .int .u8 a2_5] 28 (0, 0)) (by (with_reducible repeat (first | refine kN ?_ _ | refine kD ?_ | refine kA ?_ _)); exact BK274.out) hb); have n2_ := Aside0.mk (below_step (by repeat (first | (with_reducible first | exact HB.out | apply kL | apply kM | apply kE | refine kS ?_ GE273.out | refine kS ?_ GE274.out) | exact HB.out)) hb); have n3_ := Aside0.mk (hbox); have n4_ := Aside0.mk ((by rw [hg]; exact (below_size (by repeat (first | (with_reducible first | exact HB.out | apply kL | apply kM | apply kE | refine kS ?_ GE273.out | refine kS ?_ GE274.out) | exact HB.out))) : w.heap.size ≤ gb275)); have n5_ := Aside0.mk ((by rw [hg]; exact (below_size (by repeat (first | (with_reducible first | exact HB.out | apply kL | apply kM | apply kE | refine kS ?_ GE273.out | refine kS ?_ GE274.out) | exact HB.out))) : w.heap.size ≤ gb275)); have n6_ := Aside0.mk ((by rw [hg]; exact Nat.ne_of_lt (blk_lt (g := gb273) (o := .cells #[.int .i64 a1_0, .int .i64 a1_1, .int .u8 a1_2, .int .i64 a1_3, .int .i64 a1_4, .int .i64 a1_5, .int .i64 a1_6, .bool a1_7] 32 (0, 0)) (by (with_reducible repeat (first | refine kN ?_ _ | refine kD ?_ | refine kA ?_ _)); exact BK273.out)) : gb273 ≠ gb275)); have n7_ := Aside0.mk ((by rw [hg]; exact Nat.ne_of_gt (blk_lt (g := gb273) (o := .cells #[.int .i64 a1_0, .int .i64 a1_1, .int .u8 a1_2, .int .i64 a1_3, .int .i64 a1_4, .int .i64 a1_5, .int .i64 a1_6, .bool a1_7] 32 (0, 0)) (by (with_reducible repeat (first | refine kN ?_ _ | refine kD ?_ | refine kA ?_ _)); exact BK273.out)) : gb275 ≠ gb273)); have n8_ := Aside0.mk ((by rw [hg]; exact Nat.ne_of_lt (blk_lt (g := gb274) (o := .cells #[.int .u8 a2_0, .int .i64 a2_1, .int .i64 a2_2, .int .i64 a2_3, .int .i64 a2_4, .int .u8 a2_5] 28 (0, 0)) (by (with_reducible repeat (first | refine kN ?_ _ | refine kD ?_ | refine kA ?_ _)); exact BK274.out)) : gb274 ≠ gb275)); have n9_ := Aside0.mk ((by rw [hg]; exact Nat.ne_of_gt (blk_lt (g := gb274) (o := .cells #[.int .u8 a2_0, .int .i64 a2_1, .int .i64 a2_2, .int .i64 a2_3, .int .i64 a2_4, .int .u8 a2_5] 28 (0, 0)) (by (with_reducible repeat (first | refine kN ?_ _ | refine kD ?_ | refine kA ?_ _)); exact BK274.out)) : gb275 ≠ gb274)); clear BK273; clear BK274; clear HB; have BK273 := n0_; have BK274 := n1_; have HB := n2_; have BK275 := n3_; have GW275 := n4_; have GE275 := n5_; have NB273_275 := n6_; have NB275_273 := n7_; have NB274_275 := n8_; have NB275_274 := n9_; clear n0_ n1_ n2_ n3_ n4_ n5_ n6_ n7_ n8_ n9_; clear hb hbox hg; have hnb11 := NB273_274.out; have hnc11 := NB274_273.out; have hnb12 := NB273_275.out; have hnc12 := NB275_273.out; obtain ⟨hcz13_0, hcz13_1, hcz13_2, hcz13_3, hcz13_4, hcz13_5, hcz13_6, hcz13_7, hfz13_0, hfz13_1, hfz13_2, hfz13_3, hfz13_4, hfz13_5, hfz13_6, hfz13_7⟩ := bxc8 BK273.out) | ((with_reducible refine gate_callee (f := 14) rfl ?_); refine goesL_ (some 19) rfl rfl Tryd.func14 (by kernel_rfl) rfl #[.int .i64 a0, .agg #[.int .i64 a1_0, .int .i64 a1_1, .int .u8 a1_2, .int .i64 a1_3, .int .i64 a1_4, .int .i64 a1_5, .int .i64 a1_6, .bool a1_7]] rfl (by (try simp only [List.map_toArray, List.map_cons, List.map_nil]); first | done | rfl | (simp only [List.length_drop, List.length_take]; rfl)) ?_; (with_reducible refine (paybookref12_Asks.calls a0 a1_0 a1_1 a1_2 a1_3 a1_4 a1_5 a1_6 a1_7 t276 t277 t278 t279 t280 t281 t282 _ A6.out).mono ?_); rintro e w14 ⟨rfl, hb⟩; refine ⟨_, rfl, ?_⟩; have n0_ := Aside0.mk (blk_below (g := gb273) (o := .cells #[.int .i64 a1_0, .int .i64 a1_1, .int .u8 a1_2, .int .i64 a1_3, .int .i64 a1_4, .int .i64 a1_5, .int .i64 a1_6, .bool a1_7] 32 (0, 0)) (by (with_reducible repeat (first | refine kN ?_ _ | refine kD ?_ | refine kA ?_ _)); exact BK273.out) hb); have n1_ := Aside0.mk (blk_below (g := gb274) (o := .cells #[.int .u8 a2_0, .int .i64 a2_1, .int .i64 a2_2, .int .i64 a2_3, .int .i64 a2_4, .int .u8 a2_5] 28 (0, 0)) (by (with_reducible repeat (first | refine kN ?_ _ | refine kD ?_ | refine kA ?_ _)); exact BK274.out) hb); have n2_ := Aside0.mk (blk_below (g := gb275) (o := .cells #[.int .i64 0, .int .i64 0, .int .u8 0, .int .i64 0, .int .i64 0, .int .i64 0, .int .i64 0, .bool false] 32 (0, 0)) (by (with_reducible repeat (first | refine kN ?_ _ | refine kD ?_ | refine kA ?_ _)); exact BK275.out) hb); have n3_ := Aside0.mk (below_step (by repeat (first | (with_reducible first | exact HB.out | apply kL | apply kM | apply kE | refine kS ?_ GE273.out | refine kS ?_ GE274.out | refine kS ?_ GE275.out) | exact HB.out)) hb); clear BK273; clear BK274; clear BK275; clear HB; have BK273 := n0_; have BK274 := n1_; have BK275 := n2_; have HB := n3_; clear n0_ n1_ n2_ n3_; (try clear hb); (try clear hb2); (try clear hk); (try clear hi)) | ((with_reducible refine gate_dst (N := 12) rfl ?_); (try (refine gate_guard (by rfl) ?_; dsimp only)); refine box_event ?hg (N := 12) ?hd (cs := #[.int .u8 0, .int .i64 0, .int .i64 0, .int .i64 0, .int .i64 0, .int .u8 0]) (t := 28) ?hr ?_; (case hd => rfl); (case hg => rfl); (case hr => first | (go_simp; done) | (go_simp; rfl)); intro gb283 hg w15 hbox hb; have n0_ := Aside0.mk (blk_below (g := gb273) (o := .cells #[.int .i64 a1_0, .int .i64 a1_1, .int .u8 a1_2, .int .i64 a1_3, .int .i64 a1_4, .int .i64 a1_5, .int .i64 a1_6, .bool a1_7] 32 (0, 0)) (by (with_reducible repeat (first | refine kN ?_ _ | refine kD ?_ | refine kA ?_ _)); exact BK273.out) hb); have n1_ := Aside0.mk (blk_below (g := gb274) (o := .cells #[.int .u8 a2_0, .int .i64 a2_1, .int .i64 a2_2, .int .i64 a2_3, .int .i64 a2_4, .int .u8 a2_5] 28 (0, 0)) (by (with_reducible repeat (first | refine kN ?_ _ | refine kD ?_ | refine kA ?_ _)); exact BK274.out) hb); have n2_ := Aside0.mk (blk_below (g := gb275) (o := .cells #[.int .i64 0, .int .i64 0, .int .u8 0, .int .i64 0, .int .i64 0, .int .i64 0, .int .i64 0, .bool false] 32 (0, 0)) (by (with_reducible repeat (first | refine kN ?_ _ | refine kD ?_ | refine kA ?_ _)); exact BK275.out) hb); have n3_ := Aside0.mk (below_step (by repeat (first | (with_reducible first | exact HB.out | apply kL | apply kM | apply kE | refine kS ?_ GE273.out | refine kS ?_ GE274.out | refine kS ?_ GE275.out) | exact HB.out)) hb); have n4_ := Aside0.mk (hbox); have n5_ := Aside0.mk ((by rw [hg]; exact (below_size (by repeat (first | (with_reducible first | exact HB.out | apply kL | apply kM | apply kE | refine kS ?_ GE273.out | refine kS ?_ GE274.out | refine kS ?_ GE275.out) | exact HB.out))) : w.heap.size ≤ gb283)); have n6_ := Aside0.mk ((by rw [hg]; exact (below_size (by repeat (first | (with_reducible first | exact HB.out | apply kL | apply kM | apply kE | refine kS ?_ GE273.out | refine kS ?_ GE274.out | refine kS ?_ GE275.out) | exact HB.out))) : w.heap.size ≤ gb283)); have n7_ := Aside0.mk ((by rw [hg]; exact Nat.ne_of_lt (blk_lt (g := gb273) (o := .cells #[.int .i64 a1_0, .int .i64 a1_1, .int .u8 a1_2, .int .i64 a1_3, .int .i64 a1_4, .int .i64 a1_5, .int .i64 a1_6, .bool a1_7] 32 (0, 0)) (by (with_reducible repeat (first | refine kN ?_ _ | refine kD ?_ | refine kA ?_ _)); exact BK273.out)) : gb273 ≠ gb283)); have n8_ := Aside0.mk ((by rw [hg]; exact Nat.ne_of_gt (blk_lt (g := gb273) (o := .cells #[.int .i64 a1_0, .int .i64 a1_1, .int .u8 a1_2, .int .i64 a1_3, .int .i64 a1_4, .int .i64 a1_5, .int .i64 a1_6, .bool a1_7] 32 (0, 0)) (by (with_reducible repeat (first | refine kN ?_ _ | refine kD ?_ | refine kA ?_ _)); exact BK273.out)) : gb283 ≠ gb273)); have n9_ := Aside0.mk ((by rw [hg]; exact Nat.ne_of_lt (blk_lt (g := gb274) (o := .cells #[.int .u8 a2_0, .int .i64 a2_1, .int .i64 a2_2, .int .i64 a2_3, .int .i64 a2_4, .int .u8 a2_5] 28 (0, 0)) (by (with_reducible repeat (first | refine kN ?_ _ | refine kD ?_ | refine kA ?_ _)); exact BK274.out)) : gb274 ≠ gb283)); have n10_ := Aside0.mk ((by rw [hg]; exact Nat.ne_of_gt (blk_lt (g := gb274) (o := .cells #[.int .u8 a2_0, .int .i64 a2_1, .int .i64 a2_2, .int .i64 a2_3, .int .i64 a2_4, .int .u8 a2_5] 28 (0, 0)) (by (with_reducible repeat (first | refine kN ?_ _ | refine kD ?_ | refine kA ?_ _)); exact BK274.out)) : gb283 ≠ gb274)); have n11_ := Aside0.mk ((by rw [hg]; exact Nat.ne_of_lt (blk_lt (g := gb275) (o := .cells #[.int .i64 0, .int .i64 0, .int .u8 0, .int .i64 0, .int .i64 0, .int .i64 0, .int .i64 0, .bool false] 32 (0, 0)) (by (with_reducible repeat (first | refine kN ?_ _ | refine kD ?_ | refine kA ?_ _)); exact BK275.out)) : gb275 ≠ gb283)); have n12_ := Aside0.mk ((by rw [hg]; exact Nat.ne_of_gt (blk_lt (g := gb275) (o := .cells #[.int .i64 0, .int .i64 0, .int .u8 0, .int .i64 0, .int .i64 0, .int .i64 0, .int .i64 0, .bool false] 32 (0, 0)) (by (with_reducible repeat (first | refine kN ?_ _ | refine kD ?_ | refine kA ?_ _)); exact BK275.out)) : gb283 ≠ gb275)); clear BK273; clear BK274; clear BK275; clear HB; have BK273 := n0_; have BK274 := n1_; have BK275 := n2_; have HB := n3_; have BK283 := n4_; have GW283 := n5_; have GE283 := n6_; have NB273_283 := n7_; have NB283_273 := n8_; have NB274_283 := n9_; have NB283_274 := n10_; have NB275_283 := n11_; have NB283_275 := n12_; clear n0_ n1_ n2_ n3_ n4_ n5_ n6_ n7_ n8_ n9_ n10_ n11_ n12_; clear hb hbox hg; have hnb16 := NB283_273.out; have hnc16 := NB273_283.out; have hnb17 := NB283_274.out; have hnc17 := NB274_283.out; have hnb18 := NB283_275.out; have hnc18 := NB275_283.out; obtain ⟨hcz19_0, hcz19_1, hcz19_2, hcz19_3, hcz19_4, hcz19_5, hfz19_0, hfz19_1, hfz19_2, hfz19_3, hfz19_4, hfz19_5⟩ := bxc6 BK283.out) | ((with_reducible refine gate_store (t := 28) (p := 12) rfl ?_); refine rec_event (t := 28) (p := 12) (v := ?vo_w20) (g := gb283) (t' := 28) #[.int .u8 0, .int .i64 0, .int .i64 0, .int .i64 0, .int .i64 0, .int .u8 0] #[.int .u8 t276, .int .i64 t277, .int .i64 t278, .int .i64 t279, .int .i64 t280, .int .u8 t281] ?hg ?ho ?hn ?hx ?hy ?hb (by rfl) (by kernel_rfl) (by kernel_rfl) ?_; (case ho => rfl); (case hg => rfl); (case hn => rfl); (case hx => rfl); (case hy => rfl); (case hb => exact BK283.out); intro w20 hblk hoth hbel; have n0_ : Aside0 (w20.heap[gb273]? = some (.cells #[.int .i64 a1_0, .int .i64 a1_1, .int .u8 a1_2, .int .i64 a1_3, .int .i64 a1_4, .int .i64 a1_5, .int .i64 a1_6, .bool a1_7] 32 (0, 0))) := ⟨(hoth gb273 NB273_283.out).trans (by (with_reducible repeat (first | refine kN ?_ _ | refine kD ?_ | refine kA ?_ _)); exact BK273.out)⟩; have n1_ : Aside0 (w20.heap[gb274]? = some (.cells #[.int .u8 a2_0, .int .i64 a2_1, .int .i64 a2_2, .int .i64 a2_3, .int .i64 a2_4, .int .u8 a2_5] 28 (0, 0))) := ⟨(hoth gb274 NB274_283.out).trans (by (with_reducible repeat (first | refine kN ?_ _ | refine kD ?_ | refine kA ?_ _)); exact BK274.out)⟩; have n2_ : Aside0 (w20.heap[gb275]? = some (.cells #[.int .i64 0, .int .i64 0, .int .u8 0, .int .i64 0, .int .i64 0, .int .i64 0, .int .i64 0, .bool false] 32 (0, 0))) := ⟨(hoth gb275 NB275_283.out).trans (by (with_reducible repeat (first | refine kN ?_ _ | refine kD ?_ | refine kA ?_ _)); exact BK275.out)⟩; have n3_ : Aside0 (w20.heap[gb283]? = some (.cells #[.int .u8 t276, .int .i64 t277, .int .i64 t278, .int .i64 t279, .int .i64 t280, .int .u8 t281] 28 (0, 0))) := ⟨hblk⟩; have n4_ : Aside0 (Below w.heap.size w w20) := ⟨Below.trans (by repeat (first | (with_reducible first | exact HB.out | apply kL | apply kM | apply kE | refine kS ?_ GE273.out | refine kS ?_ GE274.out | refine kS ?_ GE275.out | refine kS ?_ GE283.out) | exact HB.out)) (hbel _ GE283.out)⟩; clear hblk hoth hbel; clear BK273; clear BK274; clear BK275; clear BK283; clear HB; have BK273 := n0_; have BK274 := n1_; have BK275 := n2_; have BK283 := n3_; have HB := n4_; clear n0_ n1_ n2_ n3_ n4_; have hnb21 := NB274_275.out; have hnc21 := NB275_274.out; obtain ⟨hcz22_0, hcz22_1, hcz22_2, hcz22_3, hcz22_4, hcz22_5, hfz22_0, hfz22_1, hfz22_2, hfz22_3, hfz22_4, hfz22_5⟩ := bxc6 BK274.out; obtain ⟨hcz23_0, hcz23_1, hcz23_2, hcz23_3, hcz23_4, hcz23_5, hfz23_0, hfz23_1, hfz23_2, hfz23_3, hfz23_4, hfz23_5⟩ := bxc6 BK283.out))
 (try simp only [Act.put, List.setIfInBounds_toArray, List.set_cons_zero, List.set_cons_succ])
 go_cut [36] (fun v36 wc => ∃ (kq : Nat) (x36_6 : Bool), v36 = .bool x36_6 ∧ Aside0 (paybookref12_Hear.j0 kq a3 a4 x36_6 a1_0 a1_1 a1_2 a1_3 a1_4 a1_5 a1_6 a1_7 a2_0 a2_1 a2_2 a2_3 a2_4 a2_5 = some (r1, r2, r3, r4, r5, r6, r7, r8, r9)) ∧ Aside0 (kq ≤ k) ∧ Aside0 (wc.heap[gb273]? = some (.cells #[.int .i64 a1_0, .int .i64 a1_1, .int .u8 a1_2, .int .i64 a1_3, .int .i64 a1_4, .int .i64 a1_5, .int .i64 a1_6, .bool a1_7] 32 (0, 0))) ∧ Aside0 (wc.heap[gb274]? = some (.cells #[.int .u8 a2_0, .int .i64 a2_1, .int .i64 a2_2, .int .i64 a2_3, .int .i64 a2_4, .int .u8 a2_5] 28 (0, 0))) ∧ Aside0 (wc.heap[gb275]? = some (.cells #[.int .i64 0, .int .i64 0, .int .u8 0, .int .i64 0, .int .i64 0, .int .i64 0, .int .i64 0, .bool false] 32 (0, 0))) ∧ Aside0 (wc.heap[gb283]? = some (.cells #[.int .u8 t276, .int .i64 t277, .int .i64 t278, .int .i64 t279, .int .i64 t280, .int .u8 a2_5] 28 (0, 0))) ∧ Aside0 (Below w.heap.size w wc))
 case first =>
  have H := HC7.out
  clear HC7
  by_cases c24 : t282 = true
  ·subst c24
   have H1 : (if a2_5 = 0 then (paybookref12_Hear.j0 k a3 a4 true a1_0 a1_1 a1_2 a1_3 a1_4 a1_5 a1_6 a1_7 a2_0 a2_1 a2_2 a2_3 a2_4 a2_5) else (paybookref12_Hear.j0 k a3 a4 (!(t276 == a2_0) || (!(t277 == a2_1) || (!(t278 == a2_2) || (!(t279 == a2_3) || (!(t280 == a2_4)))))) a1_0 a1_1 a1_2 a1_3 a1_4 a1_5 a1_6 a1_7 a2_0 a2_1 a2_2 a2_3 a2_4 a2_5)) = some (r1, r2, r3, r4, r5, r6, r7, r8, r9) := by rw [if_pos rfl] at H; try exact H
   clear H
   have H := H1
   clear H1
   by_cases c25 : a2_5 = 0
   ·rw [if_pos c25] at H
    have c25b0 : (a2_5 == 0) = true := beq_iff_eq.mpr c25
    have c25b1 : (a2_5 != 0) = false := bne_eq_false_iff_eq.mpr c25
    clear c25
    (first | (generalize hg_ : (a2_5 == 0) = bg_ at *; subst c25b0; have c25b0 := hg_; clear hg_) | rw [c25b0] | (simp only [i64_w, i32_w]; rw [c25b0]) | skip)
    have H' := Aside0.mk H
    clear H
    have hnb26 := NB274_273.out
    have hnc26 := NB273_274.out
    have hnb27 := NB274_275.out
    have hnc27 := NB275_274.out
    have hnb28 := NB274_283.out
    have hnc28 := NB283_274.out
    obtain ⟨hcz29_0, hcz29_1, hcz29_2, hcz29_3, hcz29_4, hcz29_5, hfz29_0, hfz29_1, hfz29_2, hfz29_3, hfz29_4, hfz29_5⟩ := bxc6 BK274.out
    go_wp2
    go_meet
    case rel => exact ⟨_, (true), (by first | rfl | (simp; done) | (simp [*]; done)), (by first | (with_reducible exact H') | (simp only [*]; with_reducible exact H') | exact H'), ⟨by first | omega | exact Nat.le_refl _⟩, ⟨by (with_reducible repeat (first | refine kN ?_ _ | refine kD ?_ | refine kA ?_ _ | refine kR ?_ NB273_283.out _)); (with_reducible repeat (first | refine kN ?_ _ | refine kD ?_ | refine kA ?_ _)); exact BK273.out⟩, ⟨by (with_reducible repeat (first | refine kN ?_ _ | refine kD ?_ | refine kA ?_ _ | refine kR ?_ NB274_283.out _)); (with_reducible repeat (first | refine kN ?_ _ | refine kD ?_ | refine kA ?_ _)); exact BK274.out⟩, ⟨by (with_reducible repeat (first | refine kN ?_ _ | refine kD ?_ | refine kA ?_ _ | refine kR ?_ NB275_283.out _)); (with_reducible repeat (first | refine kN ?_ _ | refine kD ?_ | refine kA ?_ _)); exact BK275.out⟩, ⟨by (with_reducible repeat (first | refine kN ?_ _ | refine kD ?_ | refine kA ?_ _)); refine bxp6_5 (o := .int .u8 t281) ?_; (with_reducible repeat (first | refine kN ?_ _ | refine kD ?_ | refine kA ?_ _)); exact BK283.out⟩, ⟨by repeat (first | (with_reducible first | exact HB.out | apply kL | apply kM | apply kE | refine kS ?_ GE273.out | refine kS ?_ GE274.out | refine kS ?_ GE275.out | refine kS ?_ GE283.out) | exact HB.out)⟩⟩
   ·rw [if_neg c25] at H
    have c25b0 : (a2_5 == 0) = false := beq_eq_false_iff_ne.mpr c25
    have c25b1 : (a2_5 != 0) = true := bne_iff_ne.mpr c25
    (first | (generalize hg_ : (a2_5 == 0) = bg_ at *; subst c25b0; have c25b0 := hg_; clear hg_) | rw [c25b0] | (simp only [i64_w, i32_w]; rw [c25b0]) | skip)
    have H' := Aside0.mk H
    clear H
    have hnb30 := NB274_273.out
    have hnc30 := NB273_274.out
    have hnb31 := NB274_275.out
    have hnc31 := NB275_274.out
    have hnb32 := NB274_283.out
    have hnc32 := NB283_274.out
    obtain ⟨hcz33_0, hcz33_1, hcz33_2, hcz33_3, hcz33_4, hcz33_5, hfz33_0, hfz33_1, hfz33_2, hfz33_3, hfz33_4, hfz33_5⟩ := bxc6 BK274.out
    have hnb34 := NB283_273.out
    have hnc34 := NB273_283.out
    have hnb35 := NB283_275.out
    have hnc35 := NB275_283.out
    obtain ⟨hcz36_0, hcz36_1, hcz36_2, hcz36_3, hcz36_4, hcz36_5, hfz36_0, hfz36_1, hfz36_2, hfz36_3, hfz36_4, hfz36_5⟩ := bxc6 BK283.out
    go_wp2
    go_meet
    case rel => exact ⟨_, ((!(t276 == a2_0) || (!(t277 == a2_1) || (!(t278 == a2_2) || (!(t279 == a2_3) || (!(t280 == a2_4))))))), (by first | rfl | (simp; done) | (simp [*]; done)), (by first | (with_reducible exact H') | (simp only [*]; with_reducible exact H') | exact H'), ⟨by first | omega | exact Nat.le_refl _⟩, ⟨by (with_reducible repeat (first | refine kN ?_ _ | refine kD ?_ | refine kA ?_ _ | refine kR ?_ NB273_283.out _)); (with_reducible repeat (first | refine kN ?_ _ | refine kD ?_ | refine kA ?_ _)); exact BK273.out⟩, ⟨by (with_reducible repeat (first | refine kN ?_ _ | refine kD ?_ | refine kA ?_ _ | refine kR ?_ NB274_283.out _)); (with_reducible repeat (first | refine kN ?_ _ | refine kD ?_ | refine kA ?_ _)); exact BK274.out⟩, ⟨by (with_reducible repeat (first | refine kN ?_ _ | refine kD ?_ | refine kA ?_ _ | refine kR ?_ NB275_283.out _)); (with_reducible repeat (first | refine kN ?_ _ | refine kD ?_ | refine kA ?_ _)); exact BK275.out⟩, ⟨by (with_reducible repeat (first | refine kN ?_ _ | refine kD ?_ | refine kA ?_ _)); refine bxp6_5 (o := .int .u8 t281) ?_; (with_reducible repeat (first | refine kN ?_ _ | refine kD ?_ | refine kA ?_ _)); exact BK283.out⟩, ⟨by repeat (first | (with_reducible first | exact HB.out | apply kL | apply kM | apply kE | refine kS ?_ GE273.out | refine kS ?_ GE274.out | refine kS ?_ GE275.out | refine kS ?_ GE283.out) | exact HB.out)⟩⟩
  ·replace c24 := Bool.eq_false_iff.mpr c24
   subst c24
   have H1 : (paybookref12_Hear.j0 k a3 a4 true a1_0 a1_1 a1_2 a1_3 a1_4 a1_5 a1_6 a1_7 a2_0 a2_1 a2_2 a2_3 a2_4 a2_5) = some (r1, r2, r3, r4, r5, r6, r7, r8, r9) := by rw [if_neg (show ¬ (false = true) by decide)] at H; try exact H
   clear H
   have H := H1
   clear H1
   have H' := Aside0.mk H
   clear H
   go_wp2
   go_meet
   case rel => exact ⟨_, (true), (by first | rfl | (simp; done) | (simp [*]; done)), (by first | (with_reducible exact H') | (simp only [*]; with_reducible exact H') | exact H'), ⟨by first | omega | exact Nat.le_refl _⟩, ⟨by (with_reducible repeat (first | refine kN ?_ _ | refine kD ?_ | refine kA ?_ _ | refine kR ?_ NB273_283.out _)); (with_reducible repeat (first | refine kN ?_ _ | refine kD ?_ | refine kA ?_ _)); exact BK273.out⟩, ⟨by (with_reducible repeat (first | refine kN ?_ _ | refine kD ?_ | refine kA ?_ _ | refine kR ?_ NB274_283.out _)); (with_reducible repeat (first | refine kN ?_ _ | refine kD ?_ | refine kA ?_ _)); exact BK274.out⟩, ⟨by (with_reducible repeat (first | refine kN ?_ _ | refine kD ?_ | refine kA ?_ _ | refine kR ?_ NB275_283.out _)); (with_reducible repeat (first | refine kN ?_ _ | refine kD ?_ | refine kA ?_ _)); exact BK275.out⟩, ⟨by (with_reducible repeat (first | refine kN ?_ _ | refine kD ?_ | refine kA ?_ _)); refine bxp6_5 (o := .int .u8 t281) ?_; (with_reducible repeat (first | refine kN ?_ _ | refine kD ?_ | refine kA ?_ _)); exact BK283.out⟩, ⟨by repeat (first | (with_reducible first | exact HB.out | apply kL | apply kM | apply kE | refine kS ?_ GE273.out | refine kS ?_ GE274.out | refine kS ?_ GE275.out | refine kS ?_ GE283.out) | exact HB.out)⟩⟩
 case rest =>
  clear HC7
  try clear c1
  try clear c2
  try clear p2
  try clear c3
  try clear c6
  try clear p6
  try clear c8
  try clear c11
  try clear c12
  try clear c14
  try clear c16
  try clear c17
  try clear c18
  try clear c19
  try clear c21
  try clear c24
  try clear c25
  try clear c25b0
  try clear c25b1
  try clear c26
  try clear c27
  try clear c28
  try clear c30
  try clear c31
  try clear c32
  try clear c34
  try clear c35
  try clear hcz13_0
  try clear hcz13_1
  try clear hcz13_2
  try clear hcz13_3
  try clear hcz13_4
  try clear hcz13_5
  try clear hcz13_6
  try clear hcz13_7
  try clear hcz19_0
  try clear hcz19_1
  try clear hcz19_2
  try clear hcz19_3
  try clear hcz19_4
  try clear hcz19_5
  try clear hcz22_0
  try clear hcz22_1
  try clear hcz22_2
  try clear hcz22_3
  try clear hcz22_4
  try clear hcz22_5
  try clear hcz23_0
  try clear hcz23_1
  try clear hcz23_2
  try clear hcz23_3
  try clear hcz23_4
  try clear hcz23_5
  try clear hcz29_0
  try clear hcz29_1
  try clear hcz29_2
  try clear hcz29_3
  try clear hcz29_4
  try clear hcz29_5
  try clear hcz33_0
  try clear hcz33_1
  try clear hcz33_2
  try clear hcz33_3
  try clear hcz33_4
  try clear hcz33_5
  try clear hcz36_0
  try clear hcz36_1
  try clear hcz36_2
  try clear hcz36_3
  try clear hcz36_4
  try clear hcz36_5
  try clear hfz13_0
  try clear hfz13_1
  try clear hfz13_2
  try clear hfz13_3
  try clear hfz13_4
  try clear hfz13_5
  try clear hfz13_6
  try clear hfz13_7
  try clear hfz19_0
  try clear hfz19_1
  try clear hfz19_2
  try clear hfz19_3
  try clear hfz19_4
  try clear hfz19_5
  try clear hfz22_0
  try clear hfz22_1
  try clear hfz22_2
  try clear hfz22_3
  try clear hfz22_4
  try clear hfz22_5
  try clear hfz23_0
  try clear hfz23_1
  try clear hfz23_2
  try clear hfz23_3
  try clear hfz23_4
  try clear hfz23_5
  try clear hfz29_0
  try clear hfz29_1
  try clear hfz29_2
  try clear hfz29_3
  try clear hfz29_4
  try clear hfz29_5
  try clear hfz33_0
  try clear hfz33_1
  try clear hfz33_2
  try clear hfz33_3
  try clear hfz33_4
  try clear hfz33_5
  try clear hfz36_0
  try clear hfz36_1
  try clear hfz36_2
  try clear hfz36_3
  try clear hfz36_4
  try clear hfz36_5
  obtain ⟨kq, x36_6, rfl, HA, HJ6, BK273, BK274, BK275, BK283, HB⟩ := hcut
  cases kq with
  | zero => exact absurd HA.out (by simp [paybookref12_Hear.j0])
  | succ kj6 =>
   have H := HA.out
   clear HA
   simp only [paybookref12_Hear.j0] at H
   by_cases c37 : x36_6 = true
   ·subst c37
    have H1 : (some (a1_0, a1_1, a1_2, a1_3, a1_4, a1_5, a1_6, a1_7, false)) = some (r1, r2, r3, r4, r5, r6, r7, r8, r9) := by rw [if_pos rfl] at H; try exact H
    clear H
    have H := H1
    clear H1
    simp only [Option.some.injEq, Prod.mk.injEq] at H
    obtain ⟨rfl, rfl, rfl, rfl, rfl, rfl, rfl, rfl, rfl⟩ := H
    have hnb38 := NB273_274.out
    have hnc38 := NB274_273.out
    have hnb39 := NB273_275.out
    have hnc39 := NB275_273.out
    have hnb40 := NB273_283.out
    have hnc40 := NB283_273.out
    obtain ⟨hcz41_0, hcz41_1, hcz41_2, hcz41_3, hcz41_4, hcz41_5, hcz41_6, hcz41_7, hfz41_0, hfz41_1, hfz41_2, hfz41_3, hfz41_4, hfz41_5, hfz41_6, hfz41_7⟩ := bxc8 BK273.out
    have hnb42 := NB275_274.out
    have hnc42 := NB274_275.out
    have hnb43 := NB275_283.out
    have hnc43 := NB283_275.out
    obtain ⟨hcz44_0, hcz44_1, hcz44_2, hcz44_3, hcz44_4, hcz44_5, hcz44_6, hcz44_7, hfz44_0, hfz44_1, hfz44_2, hfz44_3, hfz44_4, hfz44_5, hfz44_6, hfz44_7⟩ := bxc8 BK275.out
    go_wp2_with (first | ((with_reducible refine gate_store (t := 32) (p := 10) rfl ?_); refine rec_event (t := 32) (p := 10) (v := ?vo_w45) (g := gb275) (t' := 32) #[.int .i64 0, .int .i64 0, .int .u8 0, .int .i64 0, .int .i64 0, .int .i64 0, .int .i64 0, .bool false] #[.int .i64 a1_0, .int .i64 a1_1, .int .u8 a1_2, .int .i64 a1_3, .int .i64 a1_4, .int .i64 a1_5, .int .i64 a1_6, .bool a1_7] ?hg ?ho ?hn ?hx ?hy ?hb (by rfl) (by kernel_rfl) (by kernel_rfl) ?_; (case ho => rfl); (case hg => rfl); (case hn => rfl); (case hx => rfl); (case hy => rfl); (case hb => exact BK275.out); intro w45 hblk hoth hbel; have n0_ : Aside0 (w45.heap[gb273]? = some (.cells #[.int .i64 a1_0, .int .i64 a1_1, .int .u8 a1_2, .int .i64 a1_3, .int .i64 a1_4, .int .i64 a1_5, .int .i64 a1_6, .bool a1_7] 32 (0, 0))) := ⟨(hoth gb273 NB273_275.out).trans (by (with_reducible repeat (first | refine kN ?_ _ | refine kD ?_ | refine kA ?_ _)); exact BK273.out)⟩; have n1_ : Aside0 (w45.heap[gb274]? = some (.cells #[.int .u8 a2_0, .int .i64 a2_1, .int .i64 a2_2, .int .i64 a2_3, .int .i64 a2_4, .int .u8 a2_5] 28 (0, 0))) := ⟨(hoth gb274 NB274_275.out).trans (by (with_reducible repeat (first | refine kN ?_ _ | refine kD ?_ | refine kA ?_ _)); exact BK274.out)⟩; have n2_ : Aside0 (w45.heap[gb275]? = some (.cells #[.int .i64 a1_0, .int .i64 a1_1, .int .u8 a1_2, .int .i64 a1_3, .int .i64 a1_4, .int .i64 a1_5, .int .i64 a1_6, .bool a1_7] 32 (0, 0))) := ⟨hblk⟩; have n3_ : Aside0 (w45.heap[gb283]? = some (.cells #[.int .u8 t276, .int .i64 t277, .int .i64 t278, .int .i64 t279, .int .i64 t280, .int .u8 a2_5] 28 (0, 0))) := ⟨(hoth gb283 NB283_275.out).trans (by (with_reducible repeat (first | refine kN ?_ _ | refine kD ?_ | refine kA ?_ _)); exact BK283.out)⟩; have n4_ : Aside0 (Below w.heap.size w w45) := ⟨Below.trans (by repeat (first | (with_reducible first | exact HB.out | apply kL | apply kM | apply kE | refine kS ?_ GE273.out | refine kS ?_ GE274.out | refine kS ?_ GE275.out | refine kS ?_ GE283.out) | exact HB.out)) (hbel _ GE275.out)⟩; clear hblk hoth hbel; clear BK273; clear BK274; clear BK275; clear BK283; clear HB; have BK273 := n0_; have BK274 := n1_; have BK275 := n2_; have BK283 := n3_; have HB := n4_; clear n0_ n1_ n2_ n3_ n4_))
    refine bodyPost_ret (results_ct rfl _ _ gb275 32 #[.int .i64 a1_0, .int .i64 a1_1, .int .u8 a1_2, .int .i64 a1_3, .int .i64 a1_4, .int .i64 a1_5, .int .i64 a1_6, .bool a1_7] (0, 0) _ rfl (by (with_reducible repeat (first | refine kN ?_ _ | refine kD ?_ | refine kA ?_ _)); exact BK275.out) Tryd.underlying32 rfl (by kernel_rfl)) rfl ?_
    exact ⟨by first | rfl | (simp [errW_none, errW_some] <;> rfl) | (simp [*, errW_none, errW_some] <;> rfl), by repeat (first | (with_reducible first | exact HB.out | apply kL | apply kM | apply kE | refine kS ?_ GE273.out | refine kS ?_ GE274.out | refine kS ?_ GE275.out | refine kS ?_ GE283.out) | exact HB.out)⟩
   ·replace c37 := Bool.eq_false_iff.mpr c37
    subst c37
    have H1 : (if a1_2 = 1 then (if a2_5 = 1 then (paybookref12_Hear.j1 kj6 a3 a4 (a2_5 == 1) a4 a1_0 a1_1 8 a1_3 a1_4 a1_5 a1_6 a1_7 a2_0 a2_1 a2_2 a2_3 a2_4 a2_5) else (paybookref12_Hear.j1 kj6 a3 a4 (a2_5 == 1) false a1_0 a1_1 8 a1_3 a1_4 a1_5 a1_6 a1_7 a2_0 a2_1 a2_2 a2_3 a2_4 a2_5)) else (if a1_2 = 3 then (if a2_5 = 1 then (if a4 = true then (some (a1_0, a1_1, 5, a1_3, a1_4, a1_5, a1_6, a1_7, true)) else (some (a1_0, a1_1, 4, a1_3, a1_4, a1_5, a1_6, a1_7, true))) else ((paybookref12_back.f a1_0 a1_1 a1_2 a1_3 a1_4 a1_5 a1_6 a1_7).bind fun bt299 => (some (bt299.1, bt299.2.1, bt299.2.2.1, bt299.2.2.2.1, bt299.2.2.2.2.1, bt299.2.2.2.2.2.1, bt299.2.2.2.2.2.2.1, bt299.2.2.2.2.2.2.2, true)))) else (if a1_2 = 4 then (if a2_5 = 1 then (some (a1_0, a1_1, 7, a1_3, a1_4, a1_5, a1_6, a1_7, true)) else (some (a1_0, a1_1, 5, a1_3, a1_4, a1_5, a1_6, a1_7, true))) else (if a1_2 = 5 then ((paybookref12_back.f a1_0 a1_1 a1_2 a1_3 a1_4 a1_5 a1_6 a1_7).bind fun bt307 => (some (bt307.1, bt307.2.1, bt307.2.2.1, bt307.2.2.2.1, bt307.2.2.2.2.1, bt307.2.2.2.2.2.1, bt307.2.2.2.2.2.2.1, bt307.2.2.2.2.2.2.2, true))) else (some (a1_0, a1_1, 9, a1_3, a1_4, a1_5, a1_6, a1_7, true)))))) = some (r1, r2, r3, r4, r5, r6, r7, r8, r9) := by rw [if_neg (show ¬ (false = true) by decide)] at H; try exact H
    clear H
    have H := H1
    clear H1
    by_cases c46 : a1_2 = 1
    ·rw [if_pos c46] at H
     have c46b0 : (a1_2 == 1) = true := beq_iff_eq.mpr c46
     have c46b1 : (a1_2 != 1) = false := bne_eq_false_iff_eq.mpr c46
     clear c46
     have HC47 := Aside0.mk H
     clear H
     have hnb48 := NB274_273.out
     have hnc48 := NB273_274.out
     have hnb49 := NB274_275.out
     have hnc49 := NB275_274.out
     have hnb50 := NB274_283.out
     have hnc50 := NB283_274.out
     obtain ⟨hcz51_0, hcz51_1, hcz51_2, hcz51_3, hcz51_4, hcz51_5, hfz51_0, hfz51_1, hfz51_2, hfz51_3, hfz51_4, hfz51_5⟩ := bxc6 BK274.out
     have hnb52 := NB273_275.out
     have hnc52 := NB275_273.out
     have hnb53 := NB273_283.out
     have hnc53 := NB283_273.out
     obtain ⟨hcz54_0, hcz54_1, hcz54_2, hcz54_3, hcz54_4, hcz54_5, hcz54_6, hcz54_7, hfz54_0, hfz54_1, hfz54_2, hfz54_3, hfz54_4, hfz54_5, hfz54_6, hfz54_7⟩ := bxc8 BK273.out
     go_upto_region 11 with (fail)
     go_cut [51] (fun v51 wc => ∃ (kq : Nat) (x51_46 : Bool), v51 = .bool x51_46 ∧ Aside0 (paybookref12_Hear.j1 kq a3 a4 (a2_5 == 1) x51_46 a1_0 a1_1 8 a1_3 a1_4 a1_5 a1_6 a1_7 a2_0 a2_1 a2_2 a2_3 a2_4 a2_5 = some (r1, r2, r3, r4, r5, r6, r7, r8, r9)) ∧ Aside0 (kq ≤ kj6) ∧ Aside0 (wc.heap[gb273]? = some (.cells #[.int .i64 a1_0, .int .i64 a1_1, .int .u8 8, .int .i64 a1_3, .int .i64 a1_4, .int .i64 a1_5, .int .i64 a1_6, .bool a1_7] 32 (0, 0))) ∧ Aside0 (wc.heap[gb274]? = some (.cells #[.int .u8 a2_0, .int .i64 a2_1, .int .i64 a2_2, .int .i64 a2_3, .int .i64 a2_4, .int .u8 a2_5] 28 (0, 0))) ∧ Aside0 (wc.heap[gb275]? = some (.cells #[.int .i64 0, .int .i64 0, .int .u8 0, .int .i64 0, .int .i64 0, .int .i64 0, .int .i64 0, .bool false] 32 (0, 0))) ∧ Aside0 (wc.heap[gb283]? = some (.cells #[.int .u8 t276, .int .i64 t277, .int .i64 t278, .int .i64 t279, .int .i64 t280, .int .u8 a2_5] 28 (0, 0))) ∧ Aside0 (Below w.heap.size w wc))
     case first =>
      have H := HC47.out
      clear HC47
      by_cases c55 : a2_5 = 1
      ·rw [if_pos c55] at H
       have c55b0 : (a2_5 == 1) = true := beq_iff_eq.mpr c55
       have c55b1 : (a2_5 != 1) = false := bne_eq_false_iff_eq.mpr c55
       clear c55
       (first | (generalize hg_ : (a2_5 == 1) = bg_ at *; subst c55b0; have c55b0 := hg_; clear hg_) | rw [c55b0] | (simp only [i64_w, i32_w]; rw [c55b0]) | skip)
       have H' := Aside0.mk H
       clear H
       go_wp2
       go_meet
       case rel => exact ⟨_, (a4), (by first | rfl | (simp; done) | (simp [*]; done)), (by first | (with_reducible exact H') | (simp only [*]; with_reducible exact H') | exact H'), ⟨by have := HJ6.out; first | omega | exact Nat.le_refl _⟩, ⟨by (with_reducible repeat (first | refine kN ?_ _ | refine kD ?_ | refine kA ?_ _)); refine bxp8_2 (o := .int .u8 a1_2) ?_; (with_reducible repeat (first | refine kN ?_ _ | refine kD ?_ | refine kA ?_ _)); exact BK273.out⟩, ⟨by (with_reducible repeat (first | refine kN ?_ _ | refine kD ?_ | refine kA ?_ _ | refine kR ?_ NB274_273.out _)); (with_reducible repeat (first | refine kN ?_ _ | refine kD ?_ | refine kA ?_ _)); exact BK274.out⟩, ⟨by (with_reducible repeat (first | refine kN ?_ _ | refine kD ?_ | refine kA ?_ _ | refine kR ?_ NB275_273.out _)); (with_reducible repeat (first | refine kN ?_ _ | refine kD ?_ | refine kA ?_ _)); exact BK275.out⟩, ⟨by (with_reducible repeat (first | refine kN ?_ _ | refine kD ?_ | refine kA ?_ _ | refine kR ?_ NB283_273.out _)); (with_reducible repeat (first | refine kN ?_ _ | refine kD ?_ | refine kA ?_ _)); exact BK283.out⟩, ⟨by repeat (first | (with_reducible first | exact HB.out | apply kL | apply kM | apply kE | refine kS ?_ GE273.out | refine kS ?_ GE274.out | refine kS ?_ GE275.out | refine kS ?_ GE283.out) | exact HB.out)⟩⟩
      ·rw [if_neg c55] at H
       have c55b0 : (a2_5 == 1) = false := beq_eq_false_iff_ne.mpr c55
       have c55b1 : (a2_5 != 1) = true := bne_iff_ne.mpr c55
       (first | (generalize hg_ : (a2_5 == 1) = bg_ at *; subst c55b0; have c55b0 := hg_; clear hg_) | rw [c55b0] | (simp only [i64_w, i32_w]; rw [c55b0]) | skip)
       have H' := Aside0.mk H
       clear H
       go_wp2
       go_meet
       case rel => exact ⟨_, (false), (by first | rfl | (simp; done) | (simp [*]; done)), (by first | (with_reducible exact H') | (simp only [*]; with_reducible exact H') | exact H'), ⟨by have := HJ6.out; first | omega | exact Nat.le_refl _⟩, ⟨by (with_reducible repeat (first | refine kN ?_ _ | refine kD ?_ | refine kA ?_ _)); refine bxp8_2 (o := .int .u8 a1_2) ?_; (with_reducible repeat (first | refine kN ?_ _ | refine kD ?_ | refine kA ?_ _)); exact BK273.out⟩, ⟨by (with_reducible repeat (first | refine kN ?_ _ | refine kD ?_ | refine kA ?_ _ | refine kR ?_ NB274_273.out _)); (with_reducible repeat (first | refine kN ?_ _ | refine kD ?_ | refine kA ?_ _)); exact BK274.out⟩, ⟨by (with_reducible repeat (first | refine kN ?_ _ | refine kD ?_ | refine kA ?_ _ | refine kR ?_ NB275_273.out _)); (with_reducible repeat (first | refine kN ?_ _ | refine kD ?_ | refine kA ?_ _)); exact BK275.out⟩, ⟨by (with_reducible repeat (first | refine kN ?_ _ | refine kD ?_ | refine kA ?_ _ | refine kR ?_ NB283_273.out _)); (with_reducible repeat (first | refine kN ?_ _ | refine kD ?_ | refine kA ?_ _)); exact BK283.out⟩, ⟨by repeat (first | (with_reducible first | exact HB.out | apply kL | apply kM | apply kE | refine kS ?_ GE273.out | refine kS ?_ GE274.out | refine kS ?_ GE275.out | refine kS ?_ GE283.out) | exact HB.out)⟩⟩
     case rest =>
      clear HC47
      try clear c1
      try clear c2
      try clear p2
      try clear c3
      try clear c4
      try clear c5
      try clear c6
      try clear p6
      try clear c8
      try clear p8
      try clear c11
      try clear c12
      try clear c14
      try clear c16
      try clear c17
      try clear c18
      try clear c19
      try clear c21
      try clear c24
      try clear c25
      try clear c25b0
      try clear c25b1
      try clear c26
      try clear c27
      try clear c28
      try clear c30
      try clear c31
      try clear c32
      try clear c34
      try clear c35
      try clear c37
      try clear c38
      try clear c39
      try clear c40
      try clear c42
      try clear c43
      try clear c46
      try clear c46b0
      try clear c46b1
      try clear c48
      try clear c49
      try clear c50
      try clear c52
      try clear c53
      try clear c55
      try clear c55b0
      try clear c55b1
      try clear hcz13_0
      try clear hcz13_1
      try clear hcz13_2
      try clear hcz13_3
      try clear hcz13_4
      try clear hcz13_5
      try clear hcz13_6
      try clear hcz13_7
      try clear hcz19_0
      try clear hcz19_1
      try clear hcz19_2
      try clear hcz19_3
      try clear hcz19_4
      try clear hcz19_5
      try clear hcz22_0
      try clear hcz22_1
      try clear hcz22_2
      try clear hcz22_3
      try clear hcz22_4
      try clear hcz22_5
      try clear hcz23_0
      try clear hcz23_1
      try clear hcz23_2
      try clear hcz23_3
      try clear hcz23_4
      try clear hcz23_5
      try clear hcz29_0
      try clear hcz29_1
      try clear hcz29_2
      try clear hcz29_3
      try clear hcz29_4
      try clear hcz29_5
      try clear hcz33_0
      try clear hcz33_1
      try clear hcz33_2
      try clear hcz33_3
      try clear hcz33_4
      try clear hcz33_5
      try clear hcz36_0
      try clear hcz36_1
      try clear hcz36_2
      try clear hcz36_3
      try clear hcz36_4
      try clear hcz36_5
      try clear hcz41_0
      try clear hcz41_1
      try clear hcz41_2
      try clear hcz41_3
      try clear hcz41_4
      try clear hcz41_5
      try clear hcz41_6
      try clear hcz41_7
      try clear hcz44_0
      try clear hcz44_1
      try clear hcz44_2
      try clear hcz44_3
      try clear hcz44_4
      try clear hcz44_5
      try clear hcz44_6
      try clear hcz44_7
      try clear hcz51_0
      try clear hcz51_1
      try clear hcz51_2
      try clear hcz51_3
      try clear hcz51_4
      try clear hcz51_5
      try clear hcz54_0
      try clear hcz54_1
      try clear hcz54_2
      try clear hcz54_3
      try clear hcz54_4
      try clear hcz54_5
      try clear hcz54_6
      try clear hcz54_7
      try clear hfz13_0
      try clear hfz13_1
      try clear hfz13_2
      try clear hfz13_3
      try clear hfz13_4
      try clear hfz13_5
      try clear hfz13_6
      try clear hfz13_7
      try clear hfz19_0
      try clear hfz19_1
      try clear hfz19_2
      try clear hfz19_3
      try clear hfz19_4
      try clear hfz19_5
      try clear hfz22_0
      try clear hfz22_1
      try clear hfz22_2
      try clear hfz22_3
      try clear hfz22_4
      try clear hfz22_5
      try clear hfz23_0
      try clear hfz23_1
      try clear hfz23_2
      try clear hfz23_3
      try clear hfz23_4
      try clear hfz23_5
      try clear hfz29_0
      try clear hfz29_1
      try clear hfz29_2
      try clear hfz29_3
      try clear hfz29_4
      try clear hfz29_5
      try clear hfz33_0
      try clear hfz33_1
      try clear hfz33_2
      try clear hfz33_3
      try clear hfz33_4
      try clear hfz33_5
      try clear hfz36_0
      try clear hfz36_1
      try clear hfz36_2
      try clear hfz36_3
      try clear hfz36_4
      try clear hfz36_5
      try clear hfz41_0
      try clear hfz41_1
      try clear hfz41_2
      try clear hfz41_3
      try clear hfz41_4
      try clear hfz41_5
      try clear hfz41_6
      try clear hfz41_7
      try clear hfz44_0
      try clear hfz44_1
      try clear hfz44_2
      try clear hfz44_3
      try clear hfz44_4
      try clear hfz44_5
      try clear hfz44_6
      try clear hfz44_7
      try clear hfz51_0
      try clear hfz51_1
      try clear hfz51_2
      try clear hfz51_3
      try clear hfz51_4
      try clear hfz51_5
      try clear hfz54_0
      try clear hfz54_1
      try clear hfz54_2
      try clear hfz54_3
      try clear hfz54_4
      try clear hfz54_5
      try clear hfz54_6
      try clear hfz54_7
      try clear p2
      try clear p6
      obtain ⟨kq, x51_46, rfl, HA, HJ46, BK273, BK274, BK275, BK283, HB⟩ := hcut
      cases kq with
      | zero => exact absurd HA.out (by simp [paybookref12_Hear.j1])
      | succ kj46 =>
       have H := HA.out
       clear HA
       simp only [paybookref12_Hear.j1] at H
       by_cases c56 : x51_46 = true
       ·subst c56
        have H1 : ((paybookref12_back.f a1_0 a1_1 8 a1_3 a1_4 a1_5 a1_6 a1_7).bind fun bt284 => (some (bt284.1, bt284.2.1, bt284.2.2.1, bt284.2.2.2.1, bt284.2.2.2.2.1, bt284.2.2.2.2.2.1, bt284.2.2.2.2.2.2.1, bt284.2.2.2.2.2.2.2, true))) = some (r1, r2, r3, r4, r5, r6, r7, r8, r9) := by rw [if_pos rfl] at H; try exact H
        clear H
        have H := H1
        clear H1
        replace H := Option.bind_eq_some_iff.mp H
        obtain ⟨⟨t284, t285, t286, t287, t288, t289, t290, t291⟩, A570, H⟩ := H
        replace H : (some (t284, t285, t286, t287, t288, t289, t290, t291, true)) = some (r1, r2, r3, r4, r5, r6, r7, r8, r9) := H
        have A57 := Aside0.mk A570
        clear A570
        simp only [Option.some.injEq, Prod.mk.injEq] at H
        obtain ⟨rfl, rfl, rfl, rfl, rfl, rfl, rfl, rfl, rfl⟩ := H
        have hnb58 := NB273_274.out
        have hnc58 := NB274_273.out
        have hnb59 := NB273_275.out
        have hnc59 := NB275_273.out
        have hnb60 := NB273_283.out
        have hnc60 := NB283_273.out
        obtain ⟨hcz61_0, hcz61_1, hcz61_2, hcz61_3, hcz61_4, hcz61_5, hcz61_6, hcz61_7, hfz61_0, hfz61_1, hfz61_2, hfz61_3, hfz61_4, hfz61_5, hfz61_6, hfz61_7⟩ := bxc8 BK273.out
        go_wp2_with (first | ((with_reducible refine gate_callee (f := 32) rfl ?_); refine goesL_ (some 53) rfl rfl Tryd.func32 (by kernel_rfl) rfl #[.agg #[.int .i64 a1_0, .int .i64 a1_1, .int .u8 8, .int .i64 a1_3, .int .i64 a1_4, .int .i64 a1_5, .int .i64 a1_6, .bool a1_7]] rfl (by (try simp only [List.map_toArray, List.map_cons, List.map_nil]); first | done | rfl | (simp only [List.length_drop, List.length_take]; rfl)) ?_; (with_reducible refine (paybookref12_back.calls a1_0 a1_1 8 a1_3 a1_4 a1_5 a1_6 a1_7 t284 t285 t286 t287 t288 t289 t290 t291 _ A57.out).mono ?_); rintro e w62 ⟨rfl, hb⟩; refine ⟨_, rfl, ?_⟩; have n0_ := Aside0.mk (blk_below (g := gb273) (o := .cells #[.int .i64 a1_0, .int .i64 a1_1, .int .u8 8, .int .i64 a1_3, .int .i64 a1_4, .int .i64 a1_5, .int .i64 a1_6, .bool a1_7] 32 (0, 0)) (by (with_reducible repeat (first | refine kN ?_ _ | refine kD ?_ | refine kA ?_ _)); exact BK273.out) hb); have n1_ := Aside0.mk (blk_below (g := gb274) (o := .cells #[.int .u8 a2_0, .int .i64 a2_1, .int .i64 a2_2, .int .i64 a2_3, .int .i64 a2_4, .int .u8 a2_5] 28 (0, 0)) (by (with_reducible repeat (first | refine kN ?_ _ | refine kD ?_ | refine kA ?_ _)); exact BK274.out) hb); have n2_ := Aside0.mk (blk_below (g := gb275) (o := .cells #[.int .i64 0, .int .i64 0, .int .u8 0, .int .i64 0, .int .i64 0, .int .i64 0, .int .i64 0, .bool false] 32 (0, 0)) (by (with_reducible repeat (first | refine kN ?_ _ | refine kD ?_ | refine kA ?_ _)); exact BK275.out) hb); have n3_ := Aside0.mk (blk_below (g := gb283) (o := .cells #[.int .u8 t276, .int .i64 t277, .int .i64 t278, .int .i64 t279, .int .i64 t280, .int .u8 a2_5] 28 (0, 0)) (by (with_reducible repeat (first | refine kN ?_ _ | refine kD ?_ | refine kA ?_ _)); exact BK283.out) hb); have n4_ := Aside0.mk (below_step (by repeat (first | (with_reducible first | exact HB.out | apply kL | apply kM | apply kE | refine kS ?_ GE273.out | refine kS ?_ GE274.out | refine kS ?_ GE275.out | refine kS ?_ GE283.out) | exact HB.out)) hb); clear BK273; clear BK274; clear BK275; clear BK283; clear HB; have BK273 := n0_; have BK274 := n1_; have BK275 := n2_; have BK283 := n3_; have HB := n4_; clear n0_ n1_ n2_ n3_ n4_; (try clear hb); (try clear hb2); (try clear hk); (try clear hi); obtain ⟨hcz63_0, hcz63_1, hcz63_2, hcz63_3, hcz63_4, hcz63_5, hcz63_6, hcz63_7, hfz63_0, hfz63_1, hfz63_2, hfz63_3, hfz63_4, hfz63_5, hfz63_6, hfz63_7⟩ := bxc8 BK273.out) | ((with_reducible refine gate_store (t := 32) (p := 6) rfl ?_); refine rec_event (t := 32) (p := 6) (v := ?vo_w64) (g := gb273) (t' := 32) #[.int .i64 a1_0, .int .i64 a1_1, .int .u8 8, .int .i64 a1_3, .int .i64 a1_4, .int .i64 a1_5, .int .i64 a1_6, .bool a1_7] #[.int .i64 t284, .int .i64 t285, .int .u8 t286, .int .i64 t287, .int .i64 t288, .int .i64 t289, .int .i64 t290, .bool t291] ?hg ?ho ?hn ?hx ?hy ?hb (by rfl) (by kernel_rfl) (by kernel_rfl) ?_; (case ho => rfl); (case hg => rfl); (case hn => rfl); (case hx => rfl); (case hy => rfl); (case hb => exact BK273.out); intro w64 hblk hoth hbel; have n0_ : Aside0 (w64.heap[gb273]? = some (.cells #[.int .i64 t284, .int .i64 t285, .int .u8 t286, .int .i64 t287, .int .i64 t288, .int .i64 t289, .int .i64 t290, .bool t291] 32 (0, 0))) := ⟨hblk⟩; have n1_ : Aside0 (w64.heap[gb274]? = some (.cells #[.int .u8 a2_0, .int .i64 a2_1, .int .i64 a2_2, .int .i64 a2_3, .int .i64 a2_4, .int .u8 a2_5] 28 (0, 0))) := ⟨(hoth gb274 NB274_273.out).trans (by (with_reducible repeat (first | refine kN ?_ _ | refine kD ?_ | refine kA ?_ _)); exact BK274.out)⟩; have n2_ : Aside0 (w64.heap[gb275]? = some (.cells #[.int .i64 0, .int .i64 0, .int .u8 0, .int .i64 0, .int .i64 0, .int .i64 0, .int .i64 0, .bool false] 32 (0, 0))) := ⟨(hoth gb275 NB275_273.out).trans (by (with_reducible repeat (first | refine kN ?_ _ | refine kD ?_ | refine kA ?_ _)); exact BK275.out)⟩; have n3_ : Aside0 (w64.heap[gb283]? = some (.cells #[.int .u8 t276, .int .i64 t277, .int .i64 t278, .int .i64 t279, .int .i64 t280, .int .u8 a2_5] 28 (0, 0))) := ⟨(hoth gb283 NB283_273.out).trans (by (with_reducible repeat (first | refine kN ?_ _ | refine kD ?_ | refine kA ?_ _)); exact BK283.out)⟩; have n4_ : Aside0 (Below w.heap.size w w64) := ⟨Below.trans (by repeat (first | (with_reducible first | exact HB.out | apply kL | apply kM | apply kE | refine kS ?_ GE273.out | refine kS ?_ GE274.out | refine kS ?_ GE275.out | refine kS ?_ GE283.out) | exact HB.out)) (hbel _ GE273.out)⟩; clear hblk hoth hbel; clear BK273; clear BK274; clear BK275; clear BK283; clear HB; have BK273 := n0_; have BK274 := n1_; have BK275 := n2_; have BK283 := n3_; have HB := n4_; clear n0_ n1_ n2_ n3_ n4_; obtain ⟨hcz65_0, hcz65_1, hcz65_2, hcz65_3, hcz65_4, hcz65_5, hcz65_6, hcz65_7, hfz65_0, hfz65_1, hfz65_2, hfz65_3, hfz65_4, hfz65_5, hfz65_6, hfz65_7⟩ := bxc8 BK273.out; have hnb66 := NB275_274.out; have hnc66 := NB274_275.out; have hnb67 := NB275_283.out; have hnc67 := NB283_275.out; obtain ⟨hcz68_0, hcz68_1, hcz68_2, hcz68_3, hcz68_4, hcz68_5, hcz68_6, hcz68_7, hfz68_0, hfz68_1, hfz68_2, hfz68_3, hfz68_4, hfz68_5, hfz68_6, hfz68_7⟩ := bxc8 BK275.out) | ((with_reducible refine gate_store (t := 32) (p := 10) rfl ?_); refine rec_event (t := 32) (p := 10) (v := ?vo_w69) (g := gb275) (t' := 32) #[.int .i64 0, .int .i64 0, .int .u8 0, .int .i64 0, .int .i64 0, .int .i64 0, .int .i64 0, .bool false] #[.int .i64 t284, .int .i64 t285, .int .u8 t286, .int .i64 t287, .int .i64 t288, .int .i64 t289, .int .i64 t290, .bool t291] ?hg ?ho ?hn ?hx ?hy ?hb (by rfl) (by kernel_rfl) (by kernel_rfl) ?_; (case ho => rfl); (case hg => rfl); (case hn => rfl); (case hx => rfl); (case hy => rfl); (case hb => exact BK275.out); intro w69 hblk hoth hbel; have n0_ : Aside0 (w69.heap[gb273]? = some (.cells #[.int .i64 t284, .int .i64 t285, .int .u8 t286, .int .i64 t287, .int .i64 t288, .int .i64 t289, .int .i64 t290, .bool t291] 32 (0, 0))) := ⟨(hoth gb273 NB273_275.out).trans (by (with_reducible repeat (first | refine kN ?_ _ | refine kD ?_ | refine kA ?_ _)); exact BK273.out)⟩; have n1_ : Aside0 (w69.heap[gb274]? = some (.cells #[.int .u8 a2_0, .int .i64 a2_1, .int .i64 a2_2, .int .i64 a2_3, .int .i64 a2_4, .int .u8 a2_5] 28 (0, 0))) := ⟨(hoth gb274 NB274_275.out).trans (by (with_reducible repeat (first | refine kN ?_ _ | refine kD ?_ | refine kA ?_ _)); exact BK274.out)⟩; have n2_ : Aside0 (w69.heap[gb275]? = some (.cells #[.int .i64 t284, .int .i64 t285, .int .u8 t286, .int .i64 t287, .int .i64 t288, .int .i64 t289, .int .i64 t290, .bool t291] 32 (0, 0))) := ⟨hblk⟩; have n3_ : Aside0 (w69.heap[gb283]? = some (.cells #[.int .u8 t276, .int .i64 t277, .int .i64 t278, .int .i64 t279, .int .i64 t280, .int .u8 a2_5] 28 (0, 0))) := ⟨(hoth gb283 NB283_275.out).trans (by (with_reducible repeat (first | refine kN ?_ _ | refine kD ?_ | refine kA ?_ _)); exact BK283.out)⟩; have n4_ : Aside0 (Below w.heap.size w w69) := ⟨Below.trans (by repeat (first | (with_reducible first | exact HB.out | apply kL | apply kM | apply kE | refine kS ?_ GE273.out | refine kS ?_ GE274.out | refine kS ?_ GE275.out | refine kS ?_ GE283.out) | exact HB.out)) (hbel _ GE275.out)⟩; clear hblk hoth hbel; clear BK273; clear BK274; clear BK275; clear BK283; clear HB; have BK273 := n0_; have BK274 := n1_; have BK275 := n2_; have BK283 := n3_; have HB := n4_; clear n0_ n1_ n2_ n3_ n4_))
        refine bodyPost_ret (results_ct rfl _ _ gb275 32 #[.int .i64 t284, .int .i64 t285, .int .u8 t286, .int .i64 t287, .int .i64 t288, .int .i64 t289, .int .i64 t290, .bool t291] (0, 0) _ rfl (by (with_reducible repeat (first | refine kN ?_ _ | refine kD ?_ | refine kA ?_ _)); exact BK275.out) Tryd.underlying32 rfl (by kernel_rfl)) rfl ?_
        exact ⟨by first | rfl | (simp [errW_none, errW_some] <;> rfl) | (simp [*, errW_none, errW_some] <;> rfl), by repeat (first | (with_reducible first | exact HB.out | apply kL | apply kM | apply kE | refine kS ?_ GE273.out | refine kS ?_ GE274.out | refine kS ?_ GE275.out | refine kS ?_ GE283.out) | exact HB.out)⟩
       ·replace c56 := Bool.eq_false_iff.mpr c56
        subst c56
        have H1 : (if (a2_5 == 1) = true then (paybookref12_Hear.j2 kj46 a3 a4 (a2_5 == 1) a1_7 a1_0 a1_1 8 a1_3 a1_4 a1_5 a1_6 a1_7 a2_0 a2_1 a2_2 a2_3 a2_4 a2_5) else (paybookref12_Hear.j2 kj46 a3 a4 (a2_5 == 1) false a1_0 a1_1 8 a1_3 a1_4 a1_5 a1_6 a1_7 a2_0 a2_1 a2_2 a2_3 a2_4 a2_5)) = some (r1, r2, r3, r4, r5, r6, r7, r8, r9) := by rw [if_neg (show ¬ (false = true) by decide)] at H; try exact H
        clear H
        have H := H1
        clear H1
        have HC70 := Aside0.mk H
        clear H
        go_upto_region 13 with (fail)
        go_cut [58] (fun v58 wc => ∃ (kq : Nat) (x58_69 : Bool), v58 = .bool x58_69 ∧ Aside0 (paybookref12_Hear.j2 kq a3 a4 (a2_5 == 1) x58_69 a1_0 a1_1 8 a1_3 a1_4 a1_5 a1_6 a1_7 a2_0 a2_1 a2_2 a2_3 a2_4 a2_5 = some (r1, r2, r3, r4, r5, r6, r7, r8, r9)) ∧ Aside0 (kq ≤ kj46) ∧ Aside0 (wc.heap[gb273]? = some (.cells #[.int .i64 a1_0, .int .i64 a1_1, .int .u8 8, .int .i64 a1_3, .int .i64 a1_4, .int .i64 a1_5, .int .i64 a1_6, .bool a1_7] 32 (0, 0))) ∧ Aside0 (wc.heap[gb274]? = some (.cells #[.int .u8 a2_0, .int .i64 a2_1, .int .i64 a2_2, .int .i64 a2_3, .int .i64 a2_4, .int .u8 a2_5] 28 (0, 0))) ∧ Aside0 (wc.heap[gb275]? = some (.cells #[.int .i64 0, .int .i64 0, .int .u8 0, .int .i64 0, .int .i64 0, .int .i64 0, .int .i64 0, .bool false] 32 (0, 0))) ∧ Aside0 (wc.heap[gb283]? = some (.cells #[.int .u8 t276, .int .i64 t277, .int .i64 t278, .int .i64 t279, .int .i64 t280, .int .u8 a2_5] 28 (0, 0))) ∧ Aside0 (Below w.heap.size w wc))
        case first =>
         have H := HC70.out
         clear HC70
         by_cases c71 : (a2_5 == 1) = true
         ·rw [if_pos c71] at H
          have c71b0 : (a2_5 == 1) = true := c71
          (try (have c71b1 : decide (a2_5 = 1) = true := by simpa using c71))
          (try (have c71b2 : (a2_5 == 1) = true := by simpa using c71))
          clear c71
          (first | (generalize hg_ : (a2_5 == 1) = bg_ at *; subst c71b0; have c71b0 := hg_; clear hg_) | rw [c71b0] | (simp only [i64_w, i32_w]; rw [c71b0]) | skip)
          have H' := Aside0.mk H
          clear H
          have hnb72 := NB273_274.out
          have hnc72 := NB274_273.out
          have hnb73 := NB273_275.out
          have hnc73 := NB275_273.out
          have hnb74 := NB273_283.out
          have hnc74 := NB283_273.out
          obtain ⟨hcz75_0, hcz75_1, hcz75_2, hcz75_3, hcz75_4, hcz75_5, hcz75_6, hcz75_7, hfz75_0, hfz75_1, hfz75_2, hfz75_3, hfz75_4, hfz75_5, hfz75_6, hfz75_7⟩ := bxc8 BK273.out
          go_wp2
          go_meet
          case rel => exact ⟨_, (a1_7), (by first | rfl | (simp; done) | (simp [*]; done)), (by first | (with_reducible exact H') | (simp only [*]; with_reducible exact H') | exact H'), ⟨by have := HJ6.out; have := HJ46.out; first | omega | exact Nat.le_refl _⟩, ⟨by (with_reducible repeat (first | refine kN ?_ _ | refine kD ?_ | refine kA ?_ _)); exact BK273.out⟩, ⟨by (with_reducible repeat (first | refine kN ?_ _ | refine kD ?_ | refine kA ?_ _)); exact BK274.out⟩, ⟨by (with_reducible repeat (first | refine kN ?_ _ | refine kD ?_ | refine kA ?_ _)); exact BK275.out⟩, ⟨by (with_reducible repeat (first | refine kN ?_ _ | refine kD ?_ | refine kA ?_ _)); exact BK283.out⟩, ⟨by repeat (first | (with_reducible first | exact HB.out | apply kL | apply kM | apply kE | refine kS ?_ GE273.out | refine kS ?_ GE274.out | refine kS ?_ GE275.out | refine kS ?_ GE283.out) | exact HB.out)⟩⟩
         ·rw [if_neg c71] at H
          have c71b0 : (a2_5 == 1) = false := by simpa using c71
          (try (have c71b1 : decide (a2_5 = 1) = false := by simpa using c71))
          (try (have c71b2 : (a2_5 == 1) = false := by simpa using c71))
          (try (have c71b3 : ¬ (a2_5 = 1) := by simpa using c71))
          clear c71
          (first | (generalize hg_ : (a2_5 == 1) = bg_ at *; subst c71b0; have c71b0 := hg_; clear hg_) | rw [c71b0] | (simp only [i64_w, i32_w]; rw [c71b0]) | skip)
          have H' := Aside0.mk H
          clear H
          go_wp2
          go_meet
          case rel => exact ⟨_, (false), (by first | rfl | (simp; done) | (simp [*]; done)), (by first | (with_reducible exact H') | (simp only [*]; with_reducible exact H') | exact H'), ⟨by have := HJ6.out; have := HJ46.out; first | omega | exact Nat.le_refl _⟩, ⟨by (with_reducible repeat (first | refine kN ?_ _ | refine kD ?_ | refine kA ?_ _)); exact BK273.out⟩, ⟨by (with_reducible repeat (first | refine kN ?_ _ | refine kD ?_ | refine kA ?_ _)); exact BK274.out⟩, ⟨by (with_reducible repeat (first | refine kN ?_ _ | refine kD ?_ | refine kA ?_ _)); exact BK275.out⟩, ⟨by (with_reducible repeat (first | refine kN ?_ _ | refine kD ?_ | refine kA ?_ _)); exact BK283.out⟩, ⟨by repeat (first | (with_reducible first | exact HB.out | apply kL | apply kM | apply kE | refine kS ?_ GE273.out | refine kS ?_ GE274.out | refine kS ?_ GE275.out | refine kS ?_ GE283.out) | exact HB.out)⟩⟩
        case rest =>
         clear HC70
         try clear c1
         try clear c2
         try clear p2
         try clear c3
         try clear c4
         try clear c5
         try clear c6
         try clear p6
         try clear c7
         try clear c8
         try clear p8
         try clear c11
         try clear c12
         try clear c14
         try clear c16
         try clear c17
         try clear c18
         try clear c19
         try clear c21
         try clear c24
         try clear c25
         try clear c25b0
         try clear c25b1
         try clear c26
         try clear c27
         try clear c28
         try clear c30
         try clear c31
         try clear c32
         try clear c34
         try clear c35
         try clear c37
         try clear c38
         try clear c39
         try clear c40
         try clear c42
         try clear c43
         try clear c46
         try clear c46b0
         try clear c46b1
         try clear c48
         try clear c49
         try clear c50
         try clear c52
         try clear c53
         try clear c55
         try clear c55b0
         try clear c55b1
         try clear c56
         try clear c58
         try clear c59
         try clear c60
         try clear c66
         try clear c67
         try clear c71
         try clear c71b0
         try clear c71b1
         try clear c71b2
         try clear c72
         try clear c73
         try clear c74
         try clear hcz13_0
         try clear hcz13_1
         try clear hcz13_2
         try clear hcz13_3
         try clear hcz13_4
         try clear hcz13_5
         try clear hcz13_6
         try clear hcz13_7
         try clear hcz19_0
         try clear hcz19_1
         try clear hcz19_2
         try clear hcz19_3
         try clear hcz19_4
         try clear hcz19_5
         try clear hcz22_0
         try clear hcz22_1
         try clear hcz22_2
         try clear hcz22_3
         try clear hcz22_4
         try clear hcz22_5
         try clear hcz23_0
         try clear hcz23_1
         try clear hcz23_2
         try clear hcz23_3
         try clear hcz23_4
         try clear hcz23_5
         try clear hcz29_0
         try clear hcz29_1
         try clear hcz29_2
         try clear hcz29_3
         try clear hcz29_4
         try clear hcz29_5
         try clear hcz33_0
         try clear hcz33_1
         try clear hcz33_2
         try clear hcz33_3
         try clear hcz33_4
         try clear hcz33_5
         try clear hcz36_0
         try clear hcz36_1
         try clear hcz36_2
         try clear hcz36_3
         try clear hcz36_4
         try clear hcz36_5
         try clear hcz41_0
         try clear hcz41_1
         try clear hcz41_2
         try clear hcz41_3
         try clear hcz41_4
         try clear hcz41_5
         try clear hcz41_6
         try clear hcz41_7
         try clear hcz44_0
         try clear hcz44_1
         try clear hcz44_2
         try clear hcz44_3
         try clear hcz44_4
         try clear hcz44_5
         try clear hcz44_6
         try clear hcz44_7
         try clear hcz51_0
         try clear hcz51_1
         try clear hcz51_2
         try clear hcz51_3
         try clear hcz51_4
         try clear hcz51_5
         try clear hcz54_0
         try clear hcz54_1
         try clear hcz54_2
         try clear hcz54_3
         try clear hcz54_4
         try clear hcz54_5
         try clear hcz54_6
         try clear hcz54_7
         try clear hcz61_0
         try clear hcz61_1
         try clear hcz61_2
         try clear hcz61_3
         try clear hcz61_4
         try clear hcz61_5
         try clear hcz61_6
         try clear hcz61_7
         try clear hcz63_0
         try clear hcz63_1
         try clear hcz63_2
         try clear hcz63_3
         try clear hcz63_4
         try clear hcz63_5
         try clear hcz63_6
         try clear hcz63_7
         try clear hcz65_0
         try clear hcz65_1
         try clear hcz65_2
         try clear hcz65_3
         try clear hcz65_4
         try clear hcz65_5
         try clear hcz65_6
         try clear hcz65_7
         try clear hcz68_0
         try clear hcz68_1
         try clear hcz68_2
         try clear hcz68_3
         try clear hcz68_4
         try clear hcz68_5
         try clear hcz68_6
         try clear hcz68_7
         try clear hcz75_0
         try clear hcz75_1
         try clear hcz75_2
         try clear hcz75_3
         try clear hcz75_4
         try clear hcz75_5
         try clear hcz75_6
         try clear hcz75_7
         try clear hfz13_0
         try clear hfz13_1
         try clear hfz13_2
         try clear hfz13_3
         try clear hfz13_4
         try clear hfz13_5
         try clear hfz13_6
         try clear hfz13_7
         try clear hfz19_0
         try clear hfz19_1
         try clear hfz19_2
         try clear hfz19_3
         try clear hfz19_4
         try clear hfz19_5
         try clear hfz22_0
         try clear hfz22_1
         try clear hfz22_2
         try clear hfz22_3
         try clear hfz22_4
         try clear hfz22_5
         try clear hfz23_0
         try clear hfz23_1
         try clear hfz23_2
         try clear hfz23_3
         try clear hfz23_4
         try clear hfz23_5
         try clear hfz29_0
         try clear hfz29_1
         try clear hfz29_2
         try clear hfz29_3
         try clear hfz29_4
         try clear hfz29_5
         try clear hfz33_0
         try clear hfz33_1
         try clear hfz33_2
         try clear hfz33_3
         try clear hfz33_4
         try clear hfz33_5
         try clear hfz36_0
         try clear hfz36_1
         try clear hfz36_2
         try clear hfz36_3
         try clear hfz36_4
         try clear hfz36_5
         try clear hfz41_0
         try clear hfz41_1
         try clear hfz41_2
         try clear hfz41_3
         try clear hfz41_4
         try clear hfz41_5
         try clear hfz41_6
         try clear hfz41_7
         try clear hfz44_0
         try clear hfz44_1
         try clear hfz44_2
         try clear hfz44_3
         try clear hfz44_4
         try clear hfz44_5
         try clear hfz44_6
         try clear hfz44_7
         try clear hfz51_0
         try clear hfz51_1
         try clear hfz51_2
         try clear hfz51_3
         try clear hfz51_4
         try clear hfz51_5
         try clear hfz54_0
         try clear hfz54_1
         try clear hfz54_2
         try clear hfz54_3
         try clear hfz54_4
         try clear hfz54_5
         try clear hfz54_6
         try clear hfz54_7
         try clear hfz61_0
         try clear hfz61_1
         try clear hfz61_2
         try clear hfz61_3
         try clear hfz61_4
         try clear hfz61_5
         try clear hfz61_6
         try clear hfz61_7
         try clear hfz63_0
         try clear hfz63_1
         try clear hfz63_2
         try clear hfz63_3
         try clear hfz63_4
         try clear hfz63_5
         try clear hfz63_6
         try clear hfz63_7
         try clear hfz65_0
         try clear hfz65_1
         try clear hfz65_2
         try clear hfz65_3
         try clear hfz65_4
         try clear hfz65_5
         try clear hfz65_6
         try clear hfz65_7
         try clear hfz68_0
         try clear hfz68_1
         try clear hfz68_2
         try clear hfz68_3
         try clear hfz68_4
         try clear hfz68_5
         try clear hfz68_6
         try clear hfz68_7
         try clear hfz75_0
         try clear hfz75_1
         try clear hfz75_2
         try clear hfz75_3
         try clear hfz75_4
         try clear hfz75_5
         try clear hfz75_6
         try clear hfz75_7
         try clear p2
         try clear p6
         try clear p8
         obtain ⟨kq, x58_69, rfl, HA, HJ69, BK273, BK274, BK275, BK283, HB⟩ := hcut
         cases kq with
         | zero => exact absurd HA.out (by simp [paybookref12_Hear.j2])
         | succ kj69 =>
          have H := HA.out
          clear HA
          simp only [paybookref12_Hear.j2] at H
          by_cases c76 : x58_69 = true
          ·subst c76
           have H1 : (some (a1_0, a1_1, 3, a1_3, a1_4, a1_5, a1_6, a1_7, true)) = some (r1, r2, r3, r4, r5, r6, r7, r8, r9) := by rw [if_pos rfl] at H; try exact H
           clear H
           have H := H1
           clear H1
           simp only [Option.some.injEq, Prod.mk.injEq] at H
           obtain ⟨rfl, rfl, rfl, rfl, rfl, rfl, rfl, rfl, rfl⟩ := H
           have hnb77 := NB273_274.out
           have hnc77 := NB274_273.out
           have hnb78 := NB273_275.out
           have hnc78 := NB275_273.out
           have hnb79 := NB273_283.out
           have hnc79 := NB283_273.out
           obtain ⟨hcz80_0, hcz80_1, hcz80_2, hcz80_3, hcz80_4, hcz80_5, hcz80_6, hcz80_7, hfz80_0, hfz80_1, hfz80_2, hfz80_3, hfz80_4, hfz80_5, hfz80_6, hfz80_7⟩ := bxc8 BK273.out
           have hnb81 := NB275_274.out
           have hnc81 := NB274_275.out
           have hnb82 := NB275_283.out
           have hnc82 := NB283_275.out
           obtain ⟨hcz83_0, hcz83_1, hcz83_2, hcz83_3, hcz83_4, hcz83_5, hcz83_6, hcz83_7, hfz83_0, hfz83_1, hfz83_2, hfz83_3, hfz83_4, hfz83_5, hfz83_6, hfz83_7⟩ := bxc8 BK275.out
           go_wp2_with (first | ((with_reducible refine gate_store (t := 32) (p := 10) rfl ?_); refine rec_event (t := 32) (p := 10) (v := ?vo_w84) (g := gb275) (t' := 32) #[.int .i64 0, .int .i64 0, .int .u8 0, .int .i64 0, .int .i64 0, .int .i64 0, .int .i64 0, .bool false] #[.int .i64 a1_0, .int .i64 a1_1, .int .u8 3, .int .i64 a1_3, .int .i64 a1_4, .int .i64 a1_5, .int .i64 a1_6, .bool a1_7] ?hg ?ho ?hn ?hx ?hy ?hb (by rfl) (by kernel_rfl) (by kernel_rfl) ?_; (case ho => rfl); (case hg => rfl); (case hn => rfl); (case hx => rfl); (case hy => rfl); (case hb => exact by (with_reducible repeat (first | refine kN ?_ _ | refine kD ?_ | refine kA ?_ _ | refine kR ?_ NB275_273.out _)); (with_reducible repeat (first | refine kN ?_ _ | refine kD ?_ | refine kA ?_ _)); exact BK275.out); intro w84 hblk hoth hbel; have n0_ : Aside0 (w84.heap[gb273]? = some (.cells #[.int .i64 a1_0, .int .i64 a1_1, .int .u8 3, .int .i64 a1_3, .int .i64 a1_4, .int .i64 a1_5, .int .i64 a1_6, .bool a1_7] 32 (0, 0))) := ⟨(hoth gb273 NB273_275.out).trans (by (with_reducible repeat (first | refine kN ?_ _ | refine kD ?_ | refine kA ?_ _)); refine bxp8_2 (o := .int .u8 8) ?_; (with_reducible repeat (first | refine kN ?_ _ | refine kD ?_ | refine kA ?_ _)); exact BK273.out)⟩; have n1_ : Aside0 (w84.heap[gb274]? = some (.cells #[.int .u8 a2_0, .int .i64 a2_1, .int .i64 a2_2, .int .i64 a2_3, .int .i64 a2_4, .int .u8 a2_5] 28 (0, 0))) := ⟨(hoth gb274 NB274_275.out).trans (by (with_reducible repeat (first | refine kN ?_ _ | refine kD ?_ | refine kA ?_ _ | refine kR ?_ NB274_273.out _)); (with_reducible repeat (first | refine kN ?_ _ | refine kD ?_ | refine kA ?_ _)); exact BK274.out)⟩; have n2_ : Aside0 (w84.heap[gb275]? = some (.cells #[.int .i64 a1_0, .int .i64 a1_1, .int .u8 3, .int .i64 a1_3, .int .i64 a1_4, .int .i64 a1_5, .int .i64 a1_6, .bool a1_7] 32 (0, 0))) := ⟨hblk⟩; have n3_ : Aside0 (w84.heap[gb283]? = some (.cells #[.int .u8 t276, .int .i64 t277, .int .i64 t278, .int .i64 t279, .int .i64 t280, .int .u8 a2_5] 28 (0, 0))) := ⟨(hoth gb283 NB283_275.out).trans (by (with_reducible repeat (first | refine kN ?_ _ | refine kD ?_ | refine kA ?_ _ | refine kR ?_ NB283_273.out _)); (with_reducible repeat (first | refine kN ?_ _ | refine kD ?_ | refine kA ?_ _)); exact BK283.out)⟩; have n4_ : Aside0 (Below w.heap.size w w84) := ⟨Below.trans (by repeat (first | (with_reducible first | exact HB.out | apply kL | apply kM | apply kE | refine kS ?_ GE273.out | refine kS ?_ GE274.out | refine kS ?_ GE275.out | refine kS ?_ GE283.out) | exact HB.out)) (hbel _ GE275.out)⟩; clear hblk hoth hbel; clear BK273; clear BK274; clear BK275; clear BK283; clear HB; have BK273 := n0_; have BK274 := n1_; have BK275 := n2_; have BK283 := n3_; have HB := n4_; clear n0_ n1_ n2_ n3_ n4_))
           refine bodyPost_ret (results_ct rfl _ _ gb275 32 #[.int .i64 a1_0, .int .i64 a1_1, .int .u8 3, .int .i64 a1_3, .int .i64 a1_4, .int .i64 a1_5, .int .i64 a1_6, .bool a1_7] (0, 0) _ rfl (by (with_reducible repeat (first | refine kN ?_ _ | refine kD ?_ | refine kA ?_ _)); exact BK275.out) Tryd.underlying32 rfl (by kernel_rfl)) rfl ?_
           exact ⟨by first | rfl | (simp [errW_none, errW_some] <;> rfl) | (simp [*, errW_none, errW_some] <;> rfl), by repeat (first | (with_reducible first | exact HB.out | apply kL | apply kM | apply kE | refine kS ?_ GE273.out | refine kS ?_ GE274.out | refine kS ?_ GE275.out | refine kS ?_ GE283.out) | exact HB.out)⟩
          ·replace c76 := Bool.eq_false_iff.mpr c76
           subst c76
           have H1 : (if (a2_5 == 1) = true then (some (a1_0, a1_1, 7, a1_3, a1_4, a1_5, a1_6, a1_7, true)) else (if a2_5 = 2 then (if a4 = true then (some (a1_0, a1_1, 8, a1_3, a1_4, a1_5, a1_6, a1_7, true)) else ((paybookref12_Steps.f).bind fun t292 => (if a1_5 ≤ (t292.length : Int) then ((paybookref12_Steps.f).bind fun t295 => (if 0 ≤ (wrap64 (a1_5 - 1)) then (if (wrap64 (a1_5 - 1)) < (t295.length : Int) then (some (a1_0, a1_1, 2, a1_3, a1_4, a1_5, wrap64 (a3 + (rd t295 (wrap64 (a1_5 - 1)))), a1_7, true)) else (none)) else (none))) else (some (a1_0, a1_1, 8, a1_3, a1_4, a1_5, a1_6, a1_7, true))))) else (some (a1_0, a1_1, 8, a1_3, a1_4, a1_5, a1_6, a1_7, true)))) = some (r1, r2, r3, r4, r5, r6, r7, r8, r9) := by rw [if_neg (show ¬ (false = true) by decide)] at H; try exact H
           clear H
           have H := H1
           clear H1
           by_cases c85 : (a2_5 == 1) = true
           ·rw [if_pos c85] at H
            have c85b0 : (a2_5 == 1) = true := c85
            (try (have c85b1 : decide (a2_5 = 1) = true := by simpa using c85))
            (try (have c85b2 : (a2_5 == 1) = true := by simpa using c85))
            clear c85
            simp only [Option.some.injEq, Prod.mk.injEq] at H
            obtain ⟨rfl, rfl, rfl, rfl, rfl, rfl, rfl, rfl, rfl⟩ := H
            have hnb86 := NB273_274.out
            have hnc86 := NB274_273.out
            have hnb87 := NB273_275.out
            have hnc87 := NB275_273.out
            have hnb88 := NB273_283.out
            have hnc88 := NB283_273.out
            obtain ⟨hcz89_0, hcz89_1, hcz89_2, hcz89_3, hcz89_4, hcz89_5, hcz89_6, hcz89_7, hfz89_0, hfz89_1, hfz89_2, hfz89_3, hfz89_4, hfz89_5, hfz89_6, hfz89_7⟩ := bxc8 BK273.out
            have hnb90 := NB275_274.out
            have hnc90 := NB274_275.out
            have hnb91 := NB275_283.out
            have hnc91 := NB283_275.out
            obtain ⟨hcz92_0, hcz92_1, hcz92_2, hcz92_3, hcz92_4, hcz92_5, hcz92_6, hcz92_7, hfz92_0, hfz92_1, hfz92_2, hfz92_3, hfz92_4, hfz92_5, hfz92_6, hfz92_7⟩ := bxc8 BK275.out
            go_wp2_with (first | ((with_reducible refine gate_store (t := 32) (p := 10) rfl ?_); refine rec_event (t := 32) (p := 10) (v := ?vo_w93) (g := gb275) (t' := 32) #[.int .i64 0, .int .i64 0, .int .u8 0, .int .i64 0, .int .i64 0, .int .i64 0, .int .i64 0, .bool false] #[.int .i64 a1_0, .int .i64 a1_1, .int .u8 7, .int .i64 a1_3, .int .i64 a1_4, .int .i64 a1_5, .int .i64 a1_6, .bool a1_7] ?hg ?ho ?hn ?hx ?hy ?hb (by rfl) (by kernel_rfl) (by kernel_rfl) ?_; (case ho => rfl); (case hg => rfl); (case hn => rfl); (case hx => rfl); (case hy => rfl); (case hb => exact by (with_reducible repeat (first | refine kN ?_ _ | refine kD ?_ | refine kA ?_ _ | refine kR ?_ NB275_273.out _)); (with_reducible repeat (first | refine kN ?_ _ | refine kD ?_ | refine kA ?_ _)); exact BK275.out); intro w93 hblk hoth hbel; have n0_ : Aside0 (w93.heap[gb273]? = some (.cells #[.int .i64 a1_0, .int .i64 a1_1, .int .u8 7, .int .i64 a1_3, .int .i64 a1_4, .int .i64 a1_5, .int .i64 a1_6, .bool a1_7] 32 (0, 0))) := ⟨(hoth gb273 NB273_275.out).trans (by (with_reducible repeat (first | refine kN ?_ _ | refine kD ?_ | refine kA ?_ _)); refine bxp8_2 (o := .int .u8 8) ?_; (with_reducible repeat (first | refine kN ?_ _ | refine kD ?_ | refine kA ?_ _)); exact BK273.out)⟩; have n1_ : Aside0 (w93.heap[gb274]? = some (.cells #[.int .u8 a2_0, .int .i64 a2_1, .int .i64 a2_2, .int .i64 a2_3, .int .i64 a2_4, .int .u8 a2_5] 28 (0, 0))) := ⟨(hoth gb274 NB274_275.out).trans (by (with_reducible repeat (first | refine kN ?_ _ | refine kD ?_ | refine kA ?_ _ | refine kR ?_ NB274_273.out _)); (with_reducible repeat (first | refine kN ?_ _ | refine kD ?_ | refine kA ?_ _)); exact BK274.out)⟩; have n2_ : Aside0 (w93.heap[gb275]? = some (.cells #[.int .i64 a1_0, .int .i64 a1_1, .int .u8 7, .int .i64 a1_3, .int .i64 a1_4, .int .i64 a1_5, .int .i64 a1_6, .bool a1_7] 32 (0, 0))) := ⟨hblk⟩; have n3_ : Aside0 (w93.heap[gb283]? = some (.cells #[.int .u8 t276, .int .i64 t277, .int .i64 t278, .int .i64 t279, .int .i64 t280, .int .u8 a2_5] 28 (0, 0))) := ⟨(hoth gb283 NB283_275.out).trans (by (with_reducible repeat (first | refine kN ?_ _ | refine kD ?_ | refine kA ?_ _ | refine kR ?_ NB283_273.out _)); (with_reducible repeat (first | refine kN ?_ _ | refine kD ?_ | refine kA ?_ _)); exact BK283.out)⟩; have n4_ : Aside0 (Below w.heap.size w w93) := ⟨Below.trans (by repeat (first | (with_reducible first | exact HB.out | apply kL | apply kM | apply kE | refine kS ?_ GE273.out | refine kS ?_ GE274.out | refine kS ?_ GE275.out | refine kS ?_ GE283.out) | exact HB.out)) (hbel _ GE275.out)⟩; clear hblk hoth hbel; clear BK273; clear BK274; clear BK275; clear BK283; clear HB; have BK273 := n0_; have BK274 := n1_; have BK275 := n2_; have BK283 := n3_; have HB := n4_; clear n0_ n1_ n2_ n3_ n4_))
            refine bodyPost_ret (results_ct rfl _ _ gb275 32 #[.int .i64 a1_0, .int .i64 a1_1, .int .u8 7, .int .i64 a1_3, .int .i64 a1_4, .int .i64 a1_5, .int .i64 a1_6, .bool a1_7] (0, 0) _ rfl (by (with_reducible repeat (first | refine kN ?_ _ | refine kD ?_ | refine kA ?_ _)); exact BK275.out) Tryd.underlying32 rfl (by kernel_rfl)) rfl ?_
            exact ⟨by first | rfl | (simp [errW_none, errW_some] <;> rfl) | (simp [*, errW_none, errW_some] <;> rfl), by repeat (first | (with_reducible first | exact HB.out | apply kL | apply kM | apply kE | refine kS ?_ GE273.out | refine kS ?_ GE274.out | refine kS ?_ GE275.out | refine kS ?_ GE283.out) | exact HB.out)⟩
           ·rw [if_neg c85] at H
            have c85b0 : (a2_5 == 1) = false := by simpa using c85
            (try (have c85b1 : decide (a2_5 = 1) = false := by simpa using c85))
            (try (have c85b2 : (a2_5 == 1) = false := by simpa using c85))
            (try (have c85b3 : ¬ (a2_5 = 1) := by simpa using c85))
            clear c85
            by_cases c94 : a2_5 = 2
            ·rw [if_pos c94] at H
             have c94b0 : (a2_5 == 2) = true := beq_iff_eq.mpr c94
             have c94b1 : (a2_5 != 2) = false := bne_eq_false_iff_eq.mpr c94
             clear c94
             by_cases c95 : a4 = true
             ·subst c95
              have H1 : (some (a1_0, a1_1, 8, a1_3, a1_4, a1_5, a1_6, a1_7, true)) = some (r1, r2, r3, r4, r5, r6, r7, r8, r9) := by rw [if_pos rfl] at H; try exact H
              clear H
              have H := H1
              clear H1
              simp only [Option.some.injEq, Prod.mk.injEq] at H
              obtain ⟨rfl, rfl, rfl, rfl, rfl, rfl, rfl, rfl, rfl⟩ := H
              try go_wp2
              have n0_ := Aside0.mk (kD BK273.out)
              have n1_ := Aside0.mk (kD BK274.out)
              have n2_ := Aside0.mk (kD BK275.out)
              have n3_ := Aside0.mk (kD BK283.out)
              have n4_ := Aside0.mk (kE HB.out)
              clear BK273
              clear BK274
              clear BK275
              clear BK283
              clear HB
              have BK273 := n0_
              have BK274 := n1_
              have BK275 := n2_
              have BK283 := n3_
              have HB := n4_
              clear n0_ n1_ n2_ n3_ n4_
              refine start_ (n := 14) (S := fun w' => w'.cell? ⟨gb274, 0, none⟩ = some (.int .u8 a2_0) ∧ w'.cell? ⟨gb274, 1, none⟩ = some (.int .i64 a2_1) ∧ w'.cell? ⟨gb274, 2, none⟩ = some (.int .i64 a2_2) ∧ w'.cell? ⟨gb274, 3, none⟩ = some (.int .i64 a2_3) ∧ w'.cell? ⟨gb274, 4, none⟩ = some (.int .i64 a2_4) ∧ w'.cell? ⟨gb274, 5, none⟩ = some (.int .u8 a2_5)) (ds := []) #[F,F,F,F,F,F,F,F,F,F,F,F,F,F] (by kernel_rfl) rfl rfl ⟨(kC BK274.out 0).trans rfl, (kC BK274.out 1).trans rfl, (kC BK274.out 2).trans rfl, (kC BK274.out 3).trans rfl, (kC BK274.out 4).trans rfl, (kC BK274.out 5).trans rfl⟩ (fun hHeld => ?_); refine with_tabW paybookref12_Hear.tab17 paybookref12_Hear.bits17 (fun HT_ HW_ => ?_)
              generalize wc.drew = w96 at BK273 BK274 BK275 BK283 HB hHeld ⊢
              refine pure_ (i := 0) (N := some 62) (v := ?_) (a' := ?_) #[T,F,F,F,F,F,F,F,F,F,F,F,F,F] rfl rfl (any_of HT_.out (by kernel_rfl)) (fun _ _ _ h => h) (Or.inl ⟨by rfl, ?_⟩) ?_ ?_
              rotate_left
              ·intro w'
               go_simp
               with_reducible rfl
              rotate_left
              ·simp only [Act.put, List.setIfInBounds_toArray, List.set_cons_zero, List.set_cons_succ, i64_w, i32_w]
               rfl
              refine take_ (i := 1) (N := some 63) (v := ?_) (a' := ?_) #[T,T,F,F,F,F,F,F,F,F,F,F,F,F] rfl rfl (take_ofW HT_.out HW_.out (by kernel_rfl)) (fun _ _ _ h => h) (Or.inl ⟨by rfl, ?_⟩) hHeld ?_ ?_
              rotate_left
              ·rintro w' ⟨s0, s1, s2, s3, s4, s5⟩
               go_simp
               with_reducible rfl
              rotate_left
              ·simp only [Act.put, List.setIfInBounds_toArray, List.set_cons_zero, List.set_cons_succ, i64_w, i32_w]
               rfl
              refine pure_ (i := 2) (N := some 64) (v := ?_) (a' := ?_) #[T,T,T,F,F,F,F,F,F,F,F,F,F,F] rfl rfl (any_of HT_.out (by kernel_rfl)) (fun _ _ _ h => h) (Or.inl ⟨by rfl, ?_⟩) ?_ ?_
              rotate_left
              ·intro w'
               go_simp
               with_reducible rfl
              rotate_left
              ·simp only [Act.put, List.setIfInBounds_toArray, List.set_cons_zero, List.set_cons_succ, i64_w, i32_w]
               rfl
              refine pure_ (i := 3) (N := some 65) (v := ?_) (a' := ?_) #[T,T,T,T,F,F,F,F,F,F,F,F,F,F] rfl rfl (any_of HT_.out (by kernel_rfl)) (fun _ _ _ h => h) (Or.inl ⟨by rfl, ?_⟩) ?_ ?_
              rotate_left
              ·intro w'
               go_simp
               with_reducible rfl
              rotate_left
              ·simp only [Act.put, List.setIfInBounds_toArray, List.set_cons_zero, List.set_cons_succ, i64_w, i32_w]
               rfl
              refine pure_ (i := 4) (N := some 66) (v := ?_) (a' := ?_) #[T,T,T,T,T,F,F,F,F,F,F,F,F,F] rfl rfl (any_of HT_.out (by kernel_rfl)) (fun _ _ _ h => h) (Or.inl ⟨by rfl, ?_⟩) ?_ ?_
              rotate_left
              ·intro w'
               go_simp
               with_reducible rfl
              rotate_left
              ·simp only [Act.put, List.setIfInBounds_toArray, List.set_cons_zero, List.set_cons_succ, i64_w, i32_w]
               rfl
              refine pure_ (i := 5) (N := some 67) (v := ?_) (a' := ?_) #[T,T,T,T,T,T,F,F,F,F,F,F,F,F] rfl rfl (any_of HT_.out (by kernel_rfl)) (fun _ _ _ h => h) (Or.inl ⟨by rfl, ?_⟩) ?_ ?_
              rotate_left
              ·intro w'
               go_simp
               with_reducible rfl
              rotate_left
              ·simp only [Act.put, List.setIfInBounds_toArray, List.set_cons_zero, List.set_cons_succ, i64_w, i32_w]
               rfl
              refine pure_ (i := 6) (N := some 68) (v := ?_) (a' := ?_) #[T,T,T,T,T,T,T,F,F,F,F,F,F,F] rfl rfl (any_of HT_.out (by kernel_rfl)) (fun _ _ _ h => h) (Or.inl ⟨by rfl, ?_⟩) ?_ ?_
              rotate_left
              ·intro w'
               go_simp
               with_reducible rfl
              rotate_left
              ·simp only [Act.put, List.setIfInBounds_toArray, List.set_cons_zero, List.set_cons_succ, i64_w, i32_w]
               rfl
              refine pure_ (i := 7) (N := some 69) (v := ?_) (a' := ?_) #[T,T,T,T,T,T,T,T,F,F,F,F,F,F] rfl rfl (any_of HT_.out (by kernel_rfl)) (fun _ _ _ h => h) (Or.inl ⟨by rfl, ?_⟩) ?_ ?_
              rotate_left
              ·intro w'
               go_simp
               with_reducible rfl
              rotate_left
              ·simp only [Act.put, List.setIfInBounds_toArray, List.set_cons_zero, List.set_cons_succ, i64_w, i32_w]
               rfl
              refine pure_ (i := 8) (N := some 70) (v := undef) (a' := ?_) #[T,T,T,T,T,T,T,T,T,F,F,F,F,F] rfl rfl (any_of HT_.out (by kernel_rfl)) (fun _ _ _ h => h) (Or.inr ⟨by rfl, rfl⟩) ?_ ?_
              rotate_left
              ·simp only [Act.put, List.setIfInBounds_toArray, List.set_cons_zero, List.set_cons_succ, i64_w, i32_w]
               rfl
              refine pure_ (i := 9) (N := some 71) (v := undef) (a' := ?_) #[T,T,T,T,T,T,T,T,T,T,F,F,F,F] rfl rfl (any_of HT_.out (by kernel_rfl)) (fun _ _ _ h => h) (Or.inr ⟨by rfl, rfl⟩) ?_ ?_
              rotate_left
              ·simp only [Act.put, List.setIfInBounds_toArray, List.set_cons_zero, List.set_cons_succ, i64_w, i32_w]
               rfl
              refine pure_ (i := 10) (N := some 72) (v := undef) (a' := ?_) #[T,T,T,T,T,T,T,T,T,T,T,F,F,F] rfl rfl (any_of HT_.out (by kernel_rfl)) (fun _ _ _ h => h) (Or.inr ⟨by rfl, rfl⟩) ?_ ?_
              rotate_left
              ·simp only [Act.put, List.setIfInBounds_toArray, List.set_cons_zero, List.set_cons_succ, i64_w, i32_w]
               rfl
              refine pure_ (i := 11) (N := some 73) (v := undef) (a' := ?_) #[T,T,T,T,T,T,T,T,T,T,T,T,F,F] rfl rfl (any_of HT_.out (by kernel_rfl)) (fun _ _ _ h => h) (Or.inr ⟨by rfl, rfl⟩) ?_ ?_
              rotate_left
              ·simp only [Act.put, List.setIfInBounds_toArray, List.set_cons_zero, List.set_cons_succ, i64_w, i32_w]
               rfl
              refine pure_ (i := 12) (N := some 74) (v := undef) (a' := ?_) #[T,T,T,T,T,T,T,T,T,T,T,T,T,F] rfl rfl (any_of HT_.out (by kernel_rfl)) (fun _ _ _ h => h) (Or.inr ⟨by rfl, rfl⟩) ?_ ?_
              rotate_left
              ·simp only [Act.put, List.setIfInBounds_toArray, List.set_cons_zero, List.set_cons_succ, i64_w, i32_w]
               rfl
              refine pure_ (i := 13) (N := some 75) (v := ?_) (a' := ?_) #[T,T,T,T,T,T,T,T,T,T,T,T,T,T] rfl rfl (any_of HT_.out (by kernel_rfl)) (fun _ _ _ h => h) (Or.inl ⟨by rfl, ?_⟩) ?_ ?_
              rotate_left
              ·intro w'
               go_simp
               with_reducible rfl
              rotate_left
              ·simp only [Act.put, List.setIfInBounds_toArray, List.set_cons_zero, List.set_cons_succ, i64_w, i32_w]
               rfl
              refine done_ (done_of HT_.out (by kernel_rfl)) ?_
              have hnb97 := NB273_274.out
              have hnc97 := NB274_273.out
              have hnb98 := NB273_275.out
              have hnc98 := NB275_273.out
              have hnb99 := NB273_283.out
              have hnc99 := NB283_273.out
              obtain ⟨hcz100_0, hcz100_1, hcz100_2, hcz100_3, hcz100_4, hcz100_5, hcz100_6, hcz100_7, hfz100_0, hfz100_1, hfz100_2, hfz100_3, hfz100_4, hfz100_5, hfz100_6, hfz100_7⟩ := bxc8 BK273.out
              have hnb101 := NB275_274.out
              have hnc101 := NB274_275.out
              have hnb102 := NB275_283.out
              have hnc102 := NB283_275.out
              obtain ⟨hcz103_0, hcz103_1, hcz103_2, hcz103_3, hcz103_4, hcz103_5, hcz103_6, hcz103_7, hfz103_0, hfz103_1, hfz103_2, hfz103_3, hfz103_4, hfz103_5, hfz103_6, hfz103_7⟩ := bxc8 BK275.out
              try go_wp2_with (first | ((with_reducible refine gate_store (t := 32) (p := 10) rfl ?_); refine rec_event (t := 32) (p := 10) (v := ?vo_w104) (g := gb275) (t' := 32) #[.int .i64 0, .int .i64 0, .int .u8 0, .int .i64 0, .int .i64 0, .int .i64 0, .int .i64 0, .bool false] #[.int .i64 a1_0, .int .i64 a1_1, .int .u8 8, .int .i64 a1_3, .int .i64 a1_4, .int .i64 a1_5, .int .i64 a1_6, .bool a1_7] ?hg ?ho ?hn ?hx ?hy ?hb (by rfl) (by kernel_rfl) (by kernel_rfl) ?_; (case ho => rfl); (case hg => rfl); (case hn => rfl); (case hx => rfl); (case hy => rfl); (case hb => exact BK275.out); intro w104 hblk hoth hbel; have n0_ : Aside0 (w104.heap[gb273]? = some (.cells #[.int .i64 a1_0, .int .i64 a1_1, .int .u8 8, .int .i64 a1_3, .int .i64 a1_4, .int .i64 a1_5, .int .i64 a1_6, .bool a1_7] 32 (0, 0))) := ⟨(hoth gb273 NB273_275.out).trans (by (with_reducible repeat (first | refine kN ?_ _ | refine kD ?_ | refine kA ?_ _)); exact BK273.out)⟩; have n1_ : Aside0 (w104.heap[gb274]? = some (.cells #[.int .u8 a2_0, .int .i64 a2_1, .int .i64 a2_2, .int .i64 a2_3, .int .i64 a2_4, .int .u8 a2_5] 28 (0, 0))) := ⟨(hoth gb274 NB274_275.out).trans (by (with_reducible repeat (first | refine kN ?_ _ | refine kD ?_ | refine kA ?_ _)); exact BK274.out)⟩; have n2_ : Aside0 (w104.heap[gb275]? = some (.cells #[.int .i64 a1_0, .int .i64 a1_1, .int .u8 8, .int .i64 a1_3, .int .i64 a1_4, .int .i64 a1_5, .int .i64 a1_6, .bool a1_7] 32 (0, 0))) := ⟨hblk⟩; have n3_ : Aside0 (w104.heap[gb283]? = some (.cells #[.int .u8 t276, .int .i64 t277, .int .i64 t278, .int .i64 t279, .int .i64 t280, .int .u8 a2_5] 28 (0, 0))) := ⟨(hoth gb283 NB283_275.out).trans (by (with_reducible repeat (first | refine kN ?_ _ | refine kD ?_ | refine kA ?_ _)); exact BK283.out)⟩; have n4_ : Aside0 (Below w.heap.size w w104) := ⟨Below.trans (by repeat (first | (with_reducible first | exact HB.out | apply kL | apply kM | apply kE | refine kS ?_ GE273.out | refine kS ?_ GE274.out | refine kS ?_ GE275.out | refine kS ?_ GE283.out) | exact HB.out)) (hbel _ GE275.out)⟩; clear hblk hoth hbel; clear BK273; clear BK274; clear BK275; clear BK283; clear HB; have BK273 := n0_; have BK274 := n1_; have BK275 := n2_; have BK283 := n3_; have HB := n4_; clear n0_ n1_ n2_ n3_ n4_))
              refine bodyPost_ret (results_ct rfl _ _ gb275 32 #[.int .i64 a1_0, .int .i64 a1_1, .int .u8 8, .int .i64 a1_3, .int .i64 a1_4, .int .i64 a1_5, .int .i64 a1_6, .bool a1_7] (0, 0) _ rfl (by (with_reducible repeat (first | refine kN ?_ _ | refine kD ?_ | refine kA ?_ _)); exact BK275.out) Tryd.underlying32 rfl (by kernel_rfl)) rfl ?_
              exact ⟨by first | rfl | (simp [errW_none, errW_some] <;> rfl) | (simp [*, errW_none, errW_some] <;> rfl), by repeat (first | (with_reducible first | exact HB.out | apply kL | apply kM | apply kE | refine kS ?_ GE273.out | refine kS ?_ GE274.out | refine kS ?_ GE275.out | refine kS ?_ GE283.out) | exact HB.out)⟩
             ·replace c95 := Bool.eq_false_iff.mpr c95
              subst c95
              have H1 : ((paybookref12_Steps.f).bind fun t292 => (if a1_5 ≤ (t292.length : Int) then ((paybookref12_Steps.f).bind fun t295 => (if 0 ≤ (wrap64 (a1_5 - 1)) then (if (wrap64 (a1_5 - 1)) < (t295.length : Int) then (some (a1_0, a1_1, 2, a1_3, a1_4, a1_5, wrap64 (a3 + (rd t295 (wrap64 (a1_5 - 1)))), a1_7, true)) else (none)) else (none))) else (some (a1_0, a1_1, 8, a1_3, a1_4, a1_5, a1_6, a1_7, true)))) = some (r1, r2, r3, r4, r5, r6, r7, r8, r9) := by rw [if_neg (show ¬ (false = true) by decide)] at H; try exact H
              clear H
              have H := H1
              clear H1
              replace H := Option.bind_eq_some_iff.mp H
              obtain ⟨t292, A1050, H⟩ := H
              replace H : (if a1_5 ≤ (t292.length : Int) then ((paybookref12_Steps.f).bind fun t295 => (if 0 ≤ (wrap64 (a1_5 - 1)) then (if (wrap64 (a1_5 - 1)) < (t295.length : Int) then (some (a1_0, a1_1, 2, a1_3, a1_4, a1_5, wrap64 (a3 + (rd t295 (wrap64 (a1_5 - 1)))), a1_7, true)) else (none)) else (none))) else (some (a1_0, a1_1, 8, a1_3, a1_4, a1_5, a1_6, a1_7, true))) = some (r1, r2, r3, r4, r5, r6, r7, r8, r9) := H
              have A105 := Aside0.mk A1050
              clear A1050
              by_cases c106 : a1_5 ≤ (t292.length : Int)
              ·rw [if_pos c106] at H
               have c106b0 : decide (a1_5 ≤ (t292.length : Int)) = true := decide_eq_true c106
               clear c106
               replace H := Option.bind_eq_some_iff.mp H
               obtain ⟨t295, A1070, H⟩ := H
               replace H : (if 0 ≤ (wrap64 (a1_5 - 1)) then (if (wrap64 (a1_5 - 1)) < (t295.length : Int) then (some (a1_0, a1_1, 2, a1_3, a1_4, a1_5, wrap64 (a3 + (rd t295 (wrap64 (a1_5 - 1)))), a1_7, true)) else (none)) else (none)) = some (r1, r2, r3, r4, r5, r6, r7, r8, r9) := H
               have A107 := Aside0.mk A1070
               clear A1070
               obtain ⟨ji108, hji108⟩ : ∃ j_ : Int, (wrap64 (a1_5 - 1)) = j_ := ⟨_, rfl⟩
               replace H : (if 0 ≤ (ji108) then (if (ji108) < (t295.length : Int) then (some (a1_0, a1_1, 2, a1_3, a1_4, a1_5, wrap64 (a3 + (rd t295 (ji108))), a1_7, true)) else (none)) else (none)) = some (r1, r2, r3, r4, r5, r6, r7, r8, r9) := by first | (rw [hji108] at H; try exact H) | (simp only [hji108] at H ⊢; exact H)
               (try rw [hji108] at A105)
               (try rw [hji108] at A107)
               have hji108w : (IntKind.i64.wrap (a1_5 - 1)) = ji108 := (i64_w _).trans hji108
               by_cases c109 : 0 ≤ (ji108)
               ·rw [if_pos c109] at H
                have c109b0 : decide (0 ≤ (ji108)) = true := decide_eq_true c109
                clear c109
                by_cases c110 : (ji108) < (t295.length : Int)
                ·rw [if_pos c110] at H
                 have c110b0 : decide ((ji108) < (t295.length : Int)) = true := decide_eq_true c110
                 clear c110
                 simp only [Option.some.injEq, Prod.mk.injEq] at H
                 obtain ⟨rfl, rfl, rfl, rfl, rfl, rfl, rfl, rfl, rfl⟩ := H
                 try go_wp2
                 have n0_ := Aside0.mk (kD BK273.out)
                 have n1_ := Aside0.mk (kD BK274.out)
                 have n2_ := Aside0.mk (kD BK275.out)
                 have n3_ := Aside0.mk (kD BK283.out)
                 have n4_ := Aside0.mk (kE HB.out)
                 clear BK273
                 clear BK274
                 clear BK275
                 clear BK283
                 clear HB
                 have BK273 := n0_
                 have BK274 := n1_
                 have BK275 := n2_
                 have BK283 := n3_
                 have HB := n4_
                 clear n0_ n1_ n2_ n3_ n4_
                 refine start_ (n := 14) (S := fun w' => w'.cell? ⟨gb274, 0, none⟩ = some (.int .u8 a2_0) ∧ w'.cell? ⟨gb274, 1, none⟩ = some (.int .i64 a2_1) ∧ w'.cell? ⟨gb274, 2, none⟩ = some (.int .i64 a2_2) ∧ w'.cell? ⟨gb274, 3, none⟩ = some (.int .i64 a2_3) ∧ w'.cell? ⟨gb274, 4, none⟩ = some (.int .i64 a2_4) ∧ w'.cell? ⟨gb274, 5, none⟩ = some (.int .u8 a2_5) ∧ w'.cell? ⟨gb273, 0, none⟩ = some (.int .i64 a1_0) ∧ w'.cell? ⟨gb273, 1, none⟩ = some (.int .i64 a1_1) ∧ w'.cell? ⟨gb273, 2, none⟩ = some (.int .u8 8) ∧ w'.cell? ⟨gb273, 3, none⟩ = some (.int .i64 a1_3) ∧ w'.cell? ⟨gb273, 4, none⟩ = some (.int .i64 a1_4) ∧ w'.cell? ⟨gb273, 5, none⟩ = some (.int .i64 a1_5) ∧ w'.cell? ⟨gb273, 6, none⟩ = some (.int .i64 a1_6) ∧ w'.cell? ⟨gb273, 7, none⟩ = some (.bool a1_7)) (ds := []) #[F,F,F,F,F,F,F,F,F,F,F,F,F,F] (by kernel_rfl) rfl rfl ⟨(kC BK274.out 0).trans rfl, (kC BK274.out 1).trans rfl, (kC BK274.out 2).trans rfl, (kC BK274.out 3).trans rfl, (kC BK274.out 4).trans rfl, (kC BK274.out 5).trans rfl, (kC BK273.out 0).trans rfl, (kC BK273.out 1).trans rfl, (kC BK273.out 2).trans rfl, (kC BK273.out 3).trans rfl, (kC BK273.out 4).trans rfl, (kC BK273.out 5).trans rfl, (kC BK273.out 6).trans rfl, (kC BK273.out 7).trans rfl⟩ (fun hHeld => ?_); refine with_tabW paybookref12_Hear.tab17 paybookref12_Hear.bits17 (fun HT_ HW_ => ?_)
                 generalize wc.drew = w111 at BK273 BK274 BK275 BK283 HB hHeld ⊢
                 refine pure_ (i := 0) (N := some 62) (v := ?_) (a' := ?_) #[T,F,F,F,F,F,F,F,F,F,F,F,F,F] rfl rfl (any_of HT_.out (by kernel_rfl)) (fun _ _ _ h => h) (Or.inl ⟨by rfl, ?_⟩) ?_ ?_
                 rotate_left
                 ·intro w'
                  go_simp
                  with_reducible rfl
                 rotate_left
                 ·simp only [Act.put, List.setIfInBounds_toArray, List.set_cons_zero, List.set_cons_succ, i64_w, i32_w]
                  rfl
                 refine take_ (i := 1) (N := some 63) (v := ?_) (a' := ?_) #[T,T,F,F,F,F,F,F,F,F,F,F,F,F] rfl rfl (take_ofW HT_.out HW_.out (by kernel_rfl)) (fun _ _ _ h => h) (Or.inl ⟨by rfl, ?_⟩) hHeld ?_ ?_
                 rotate_left
                 ·rintro w' ⟨s0, s1, s2, s3, s4, s5, s6, s7, s8, s9, s10, s11, s12, s13⟩
                  go_simp
                  with_reducible rfl
                 rotate_left
                 ·simp only [Act.put, List.setIfInBounds_toArray, List.set_cons_zero, List.set_cons_succ, i64_w, i32_w]
                  rfl
                 refine pure_ (i := 2) (N := some 64) (v := ?_) (a' := ?_) #[T,T,T,F,F,F,F,F,F,F,F,F,F,F] rfl rfl (any_of HT_.out (by kernel_rfl)) (fun _ _ _ h => h) (Or.inl ⟨by rfl, ?_⟩) ?_ ?_
                 rotate_left
                 ·intro w'
                  go_simp
                  with_reducible rfl
                 rotate_left
                 ·simp only [Act.put, List.setIfInBounds_toArray, List.set_cons_zero, List.set_cons_succ, i64_w, i32_w]
                  rfl
                 refine pure_ (i := 3) (N := some 65) (v := ?_) (a' := ?_) #[T,T,T,T,F,F,F,F,F,F,F,F,F,F] rfl rfl (any_of HT_.out (by kernel_rfl)) (fun _ _ _ h => h) (Or.inl ⟨by rfl, ?_⟩) ?_ ?_
                 rotate_left
                 ·intro w'
                  go_simp
                  with_reducible rfl
                 rotate_left
                 ·simp only [Act.put, List.setIfInBounds_toArray, List.set_cons_zero, List.set_cons_succ, i64_w, i32_w]
                  rfl
                 refine pure_ (i := 4) (N := some 66) (v := ?_) (a' := ?_) #[T,T,T,T,T,F,F,F,F,F,F,F,F,F] rfl rfl (any_of HT_.out (by kernel_rfl)) (fun _ _ _ h => h) (Or.inl ⟨by rfl, ?_⟩) ?_ ?_
                 rotate_left
                 ·intro w'
                  go_simp
                  with_reducible rfl
                 rotate_left
                 ·simp only [Act.put, List.setIfInBounds_toArray, List.set_cons_zero, List.set_cons_succ, i64_w, i32_w]
                  rfl
                 refine pure_ (i := 5) (N := some 67) (v := ?_) (a' := ?_) #[T,T,T,T,T,T,F,F,F,F,F,F,F,F] rfl rfl (any_of HT_.out (by kernel_rfl)) (fun _ _ _ h => h) (Or.inl ⟨by rfl, ?_⟩) ?_ ?_
                 rotate_left
                 ·intro w'
                  go_simp
                  with_reducible rfl
                 rotate_left
                 ·simp only [Act.put, List.setIfInBounds_toArray, List.set_cons_zero, List.set_cons_succ, i64_w, i32_w]
                  rfl
                 refine pure_ (i := 6) (N := some 68) (v := ?_) (a' := ?_) #[T,T,T,T,T,T,T,F,F,F,F,F,F,F] rfl rfl (any_of HT_.out (by kernel_rfl)) (fun _ _ _ h => h) (Or.inl ⟨by rfl, ?_⟩) ?_ ?_
                 rotate_left
                 ·intro w'
                  go_simp
                  with_reducible rfl
                 rotate_left
                 ·simp only [Act.put, List.setIfInBounds_toArray, List.set_cons_zero, List.set_cons_succ, i64_w, i32_w]
                  rfl
                 refine pure_ (i := 7) (N := some 69) (v := ?_) (a' := ?_) #[T,T,T,T,T,T,T,T,F,F,F,F,F,F] rfl rfl (any_of HT_.out (by kernel_rfl)) (fun _ _ _ h => h) (Or.inl ⟨by rfl, ?_⟩) ?_ ?_
                 rotate_left
                 ·intro w'
                  go_simp
                  with_reducible rfl
                 rotate_left
                 ·simp only [Act.put, List.setIfInBounds_toArray, List.set_cons_zero, List.set_cons_succ, i64_w, i32_w]
                  rfl
                 refine pure_ (i := 8) (N := some 70) (v := ?_) (a' := ?_) #[T,T,T,T,T,T,T,T,T,F,F,F,F,F] rfl rfl (any_of HT_.out (by kernel_rfl)) (fun _ _ _ h => h) (Or.inl ⟨by rfl, ?_⟩) ?_ ?_
                 rotate_left
                 ·intro w'
                  go_simp
                  with_reducible rfl
                 rotate_left
                 ·simp only [Act.put, List.setIfInBounds_toArray, List.set_cons_zero, List.set_cons_succ, i64_w, i32_w]
                  rfl
                 refine take_ (i := 9) (N := some 71) (v := ?_) (a' := ?_) #[T,T,T,T,T,T,T,T,T,T,F,F,F,F] rfl rfl (take_ofW HT_.out HW_.out (by kernel_rfl)) (fun _ _ _ h => h) (Or.inl ⟨by rfl, ?_⟩) hHeld ?_ ?_
                 rotate_left
                 ·rintro w' ⟨s0, s1, s2, s3, s4, s5, s6, s7, s8, s9, s10, s11, s12, s13⟩
                  go_simp
                  with_reducible rfl
                 rotate_left
                 ·simp only [Act.put, List.setIfInBounds_toArray, List.set_cons_zero, List.set_cons_succ, i64_w, i32_w]
                  rfl
                 refine one_ (i := 10) (N := some 72) #[T,T,T,T,T,T,T,T,T,T,T,F,F,F] rfl rfl (one_of HT_.out (by kernel_rfl)) (by decide) (fun K hK => ?_)
                 refine goes_ Tryd.func25 (by kernel_rfl) rfl #[] (by rfl) rfl rfl (by (try simp only [List.map_toArray, List.map_cons, List.map_nil]); first | done | rfl | (simp only [List.length_drop, List.length_take]; rfl)) ?_
                 with_reducible refine (paybookref12_Steps.calls  t292 _ A105.out).mono ?_
                 rintro e w112 ⟨v293, rfl, ho0, hb⟩
                 refine ⟨_, rfl, ?_⟩
                 have n0_ := Aside0.mk (Kd.R_lower ho0 (below_size (by repeat (first | (with_reducible first | exact HB.out | apply kL | apply kM | apply kE | refine kS ?_ GE273.out | refine kS ?_ GE274.out | refine kS ?_ GE275.out | refine kS ?_ GE283.out) | exact HB.out))))
                 have n1_ := Aside0.mk (blk_below (g := gb273) (o := .cells #[.int .i64 a1_0, .int .i64 a1_1, .int .u8 8, .int .i64 a1_3, .int .i64 a1_4, .int .i64 a1_5, .int .i64 a1_6, .bool a1_7] 32 (0, 0)) (by (with_reducible repeat (first | refine kN ?_ _ | refine kD ?_ | refine kA ?_ _)); exact BK273.out) hb)
                 have n2_ := Aside0.mk (blk_below (g := gb274) (o := .cells #[.int .u8 a2_0, .int .i64 a2_1, .int .i64 a2_2, .int .i64 a2_3, .int .i64 a2_4, .int .u8 a2_5] 28 (0, 0)) (by (with_reducible repeat (first | refine kN ?_ _ | refine kD ?_ | refine kA ?_ _)); exact BK274.out) hb)
                 have n3_ := Aside0.mk (blk_below (g := gb275) (o := .cells #[.int .i64 0, .int .i64 0, .int .u8 0, .int .i64 0, .int .i64 0, .int .i64 0, .int .i64 0, .bool false] 32 (0, 0)) (by (with_reducible repeat (first | refine kN ?_ _ | refine kD ?_ | refine kA ?_ _)); exact BK275.out) hb)
                 have n4_ := Aside0.mk (blk_below (g := gb283) (o := .cells #[.int .u8 t276, .int .i64 t277, .int .i64 t278, .int .i64 t279, .int .i64 t280, .int .u8 a2_5] 28 (0, 0)) (by (with_reducible repeat (first | refine kN ?_ _ | refine kD ?_ | refine kA ?_ _)); exact BK283.out) hb)
                 have n5_ := Aside0.mk (below_step (by repeat (first | (with_reducible first | exact HB.out | apply kL | apply kM | apply kE | refine kS ?_ GE273.out | refine kS ?_ GE274.out | refine kS ?_ GE275.out | refine kS ?_ GE283.out) | exact HB.out)) hb)
                 clear BK273
                 clear BK274
                 clear BK275
                 clear BK283
                 clear HB
                 have HO294 := n0_
                 have BK273 := n1_
                 have BK274 := n2_
                 have BK275 := n3_
                 have BK283 := n4_
                 have HB := n5_
                 clear n0_ n1_ n2_ n3_ n4_ n5_
                 (try clear hb)
                 (try clear hb2)
                 (try clear hk)
                 (try clear hi)
                 (try clear ho0)
                 obtain ⟨Ao113, co113, eo113⟩ := Kd.R_slice HO294.out
                 (first | subst eo113 | (injection eo113 with f1_ f2_ f3_; have f4_ := f1_.symm; have f5_ := f3_.symm; clear f1_ f2_ f3_; subst f4_; subst f5_))
                 refine hK.out _ _ ⟨(kC BK274.out 0).trans rfl, (kC BK274.out 1).trans rfl, (kC BK274.out 2).trans rfl, (kC BK274.out 3).trans rfl, (kC BK274.out 4).trans rfl, (kC BK274.out 5).trans rfl, (kC BK273.out 0).trans rfl, (kC BK273.out 1).trans rfl, (kC BK273.out 2).trans rfl, (kC BK273.out 3).trans rfl, (kC BK273.out 4).trans rfl, (kC BK273.out 5).trans rfl, (kC BK273.out 6).trans rfl, (kC BK273.out 7).trans rfl⟩ (fun hHeld => ?_)
                 clear hK K
                 refine norm_ (a' := ?_) ?_ ?_
                 rotate_left
                 ·show Act.put _ (some 72) _ = _
                  simp only [Act.put, List.setIfInBounds_toArray, List.set_cons_zero, List.set_cons_succ, i64_w, i32_w]
                  rfl
                 refine pure_ (i := 11) (N := some 73) (v := ?_) (a' := ?_) #[T,T,T,T,T,T,T,T,T,T,T,T,F,F] rfl rfl (any_of HT_.out (by kernel_rfl)) (fun _ _ _ h => h) (Or.inl ⟨by rfl, ?_⟩) ?_ ?_
                 rotate_left
                 ·intro w'
                  go_simp
                  with_reducible rfl
                 rotate_left
                 ·simp only [Act.put, List.setIfInBounds_toArray, List.set_cons_zero, List.set_cons_succ, i64_w, i32_w]
                  rfl
                 refine pure_ (i := 12) (N := some 74) (v := ?_) (a' := ?_) #[T,T,T,T,T,T,T,T,T,T,T,T,T,F] rfl rfl (any_of HT_.out (by kernel_rfl)) (fun _ _ _ h => h) (Or.inl ⟨by rfl, ?_⟩) ?_ ?_
                 rotate_left
                 ·intro w'
                  go_simp
                  with_reducible rfl
                 rotate_left
                 ·simp only [Act.put, List.setIfInBounds_toArray, List.set_cons_zero, List.set_cons_succ, i64_w, i32_w]
                  rfl
                 refine pure_ (i := 13) (N := some 75) (v := ?_) (a' := ?_) #[T,T,T,T,T,T,T,T,T,T,T,T,T,T] rfl rfl (any_of HT_.out (by kernel_rfl)) (fun _ _ _ h => h) (Or.inl ⟨by rfl, ?_⟩) ?_ ?_
                 rotate_left
                 ·intro w'
                  go_simp
                  with_reducible rfl
                 rotate_left
                 ·simp only [Act.put, List.setIfInBounds_toArray, List.set_cons_zero, List.set_cons_succ, i64_w, i32_w]
                  rfl
                 refine done_ (done_of HT_.out (by kernel_rfl)) ?_
                 have hnb114 := NB273_274.out
                 have hnc114 := NB274_273.out
                 have hnb115 := NB273_275.out
                 have hnc115 := NB275_273.out
                 have hnb116 := NB273_283.out
                 have hnc116 := NB283_273.out
                 obtain ⟨hcz117_0, hcz117_1, hcz117_2, hcz117_3, hcz117_4, hcz117_5, hcz117_6, hcz117_7, hfz117_0, hfz117_1, hfz117_2, hfz117_3, hfz117_4, hfz117_5, hfz117_6, hfz117_7⟩ := bxc8 BK273.out
                 try go_wp2
                 have n0_ : Aside0 (Kd.R (Kd.int .i64) 3 (w112.setCell ⟨gb273, 2, none⟩ (.int .u8 2)) w.heap.size (fun _ => True) (.slice Ao113 t292.length co113) t292) := ⟨by (with_reducible repeat (first | apply Kd.R_alloc | apply Kd.R_drewN | apply Kd.R_drew)); exact Kd.R_mono (Kd.R_far (p := ⟨gb273, 2, none⟩) (Kd.R_types HO294.out BK273.out (by decide)) (fun _ hk => hk.2) (.int .u8 2)) (fun _ hk => trivial)⟩
                 have n1_ : Aside0 ((w112.setCell ⟨gb273, 2, none⟩ (.int .u8 2)).heap[gb273]? = some (.cells #[.int .i64 a1_0, .int .i64 a1_1, .int .u8 2, .int .i64 a1_3, .int .i64 a1_4, .int .i64 a1_5, .int .i64 a1_6, .bool a1_7] 32 (0, 0))) := ⟨by (with_reducible repeat (first | refine kN ?_ _ | refine kD ?_ | refine kA ?_ _)); refine bxp8_2 (o := .int .u8 8) ?_; (with_reducible repeat (first | refine kN ?_ _ | refine kD ?_ | refine kA ?_ _)); exact BK273.out⟩
                 have n2_ : Aside0 ((w112.setCell ⟨gb273, 2, none⟩ (.int .u8 2)).heap[gb274]? = some (.cells #[.int .u8 a2_0, .int .i64 a2_1, .int .i64 a2_2, .int .i64 a2_3, .int .i64 a2_4, .int .u8 a2_5] 28 (0, 0))) := ⟨by (with_reducible repeat (first | refine kN ?_ _ | refine kD ?_ | refine kA ?_ _ | refine kR ?_ NB274_273.out _)); (with_reducible repeat (first | refine kN ?_ _ | refine kD ?_ | refine kA ?_ _)); exact BK274.out⟩
                 have n3_ : Aside0 ((w112.setCell ⟨gb273, 2, none⟩ (.int .u8 2)).heap[gb275]? = some (.cells #[.int .i64 0, .int .i64 0, .int .u8 0, .int .i64 0, .int .i64 0, .int .i64 0, .int .i64 0, .bool false] 32 (0, 0))) := ⟨by (with_reducible repeat (first | refine kN ?_ _ | refine kD ?_ | refine kA ?_ _ | refine kR ?_ NB275_273.out _)); (with_reducible repeat (first | refine kN ?_ _ | refine kD ?_ | refine kA ?_ _)); exact BK275.out⟩
                 have n4_ : Aside0 ((w112.setCell ⟨gb273, 2, none⟩ (.int .u8 2)).heap[gb283]? = some (.cells #[.int .u8 t276, .int .i64 t277, .int .i64 t278, .int .i64 t279, .int .i64 t280, .int .u8 a2_5] 28 (0, 0))) := ⟨by (with_reducible repeat (first | refine kN ?_ _ | refine kD ?_ | refine kA ?_ _ | refine kR ?_ NB283_273.out _)); (with_reducible repeat (first | refine kN ?_ _ | refine kD ?_ | refine kA ?_ _)); exact BK283.out⟩
                 have n5_ : Aside0 (Below w.heap.size w (w112.setCell ⟨gb273, 2, none⟩ (.int .u8 2))) := ⟨by repeat (first | (with_reducible first | exact HB.out | apply kL | apply kM | apply kE | refine kS ?_ GE273.out | refine kS ?_ GE274.out | refine kS ?_ GE275.out | refine kS ?_ GE283.out) | exact HB.out)⟩
                 (try clear HO294)
                 (try clear BK273)
                 (try clear BK274)
                 (try clear BK275)
                 (try clear BK283)
                 (try clear HB)
                 generalize (w112.setCell ⟨gb273, 2, none⟩ (.int .u8 2)) = w118 at n0_ n1_ n2_ n3_ n4_ n5_ ⊢
                 have HO294 := n0_
                 have BK273 := n1_
                 have BK274 := n2_
                 have BK275 := n3_
                 have BK283 := n4_
                 have HB := n5_
                 clear n0_ n1_ n2_ n3_ n4_ n5_
                 have n0_ := Aside0.mk (Kd.R_drew HO294.out)
                 have n1_ := Aside0.mk (kD BK273.out)
                 have n2_ := Aside0.mk (kD BK274.out)
                 have n3_ := Aside0.mk (kD BK275.out)
                 have n4_ := Aside0.mk (kD BK283.out)
                 have n5_ := Aside0.mk (kE HB.out)
                 clear HO294
                 clear BK273
                 clear BK274
                 clear BK275
                 clear BK283
                 clear HB
                 have HO294 := n0_
                 have BK273 := n1_
                 have BK274 := n2_
                 have BK275 := n3_
                 have BK283 := n4_
                 have HB := n5_
                 clear n0_ n1_ n2_ n3_ n4_ n5_
                 refine start_ (n := 10) (S := fun w' => w'.cell? ⟨gb273, 0, none⟩ = some (.int .i64 a1_0) ∧ w'.cell? ⟨gb273, 1, none⟩ = some (.int .i64 a1_1) ∧ w'.cell? ⟨gb273, 2, none⟩ = some (.int .u8 2) ∧ w'.cell? ⟨gb273, 3, none⟩ = some (.int .i64 a1_3) ∧ w'.cell? ⟨gb273, 4, none⟩ = some (.int .i64 a1_4) ∧ w'.cell? ⟨gb273, 5, none⟩ = some (.int .i64 a1_5) ∧ w'.cell? ⟨gb273, 6, none⟩ = some (.int .i64 a1_6) ∧ w'.cell? ⟨gb273, 7, none⟩ = some (.bool a1_7)) (ds := [9]) #[false, false, false, false, false, false, false, false, false, false] (by kernel_rfl) rfl rfl ⟨(kC BK273.out 0).trans rfl, (kC BK273.out 1).trans rfl, (kC BK273.out 2).trans rfl, (kC BK273.out 3).trans rfl, (kC BK273.out 4).trans rfl, (kC BK273.out 5).trans rfl, (kC BK273.out 6).trans rfl, (kC BK273.out 7).trans rfl⟩ (fun hHeld => ?_); refine with_tabW paybookref12_Hear.tab19 paybookref12_Hear.bits19 (fun HT_ HW_ => ?_)
                 generalize w118.drew = w119 at HO294 BK273 BK274 BK275 BK283 HB hHeld ⊢
                 refine pure_ (i := 0) (N := some 77) (v := ?_) (a' := ?_) #[true, false, false, false, false, false, false, false, false, false] rfl rfl (any_of HT_.out (by kernel_rfl)) (fun _ _ _ h => h) (Or.inl ⟨by rfl, ?_⟩) ?_ ?_
                 rotate_left
                 ·intro w'
                  go_simp
                  with_reducible rfl
                 rotate_left
                 ·simp only [Act.put, List.setIfInBounds_toArray, List.set_cons_zero, List.set_cons_succ, i64_w, i32_w]
                  rfl
                 refine pure_ (i := 2) (N := some 79) (v := ?_) (a' := ?_) #[true, false, true, false, false, false, false, false, false, false] rfl rfl (any_of HT_.out (by kernel_rfl)) (fun _ _ _ h => h) (Or.inl ⟨by rfl, ?_⟩) ?_ ?_
                 rotate_left
                 ·intro w'
                  go_simp
                  with_reducible rfl
                 rotate_left
                 ·simp only [Act.put, List.setIfInBounds_toArray, List.set_cons_zero, List.set_cons_succ, i64_w, i32_w]
                  rfl
                 refine take_ (i := 3) (N := some 80) (v := ?_) (a' := ?_) #[true, false, true, true, false, false, false, false, false, false] rfl rfl (take_ofW HT_.out HW_.out (by kernel_rfl)) (fun _ _ _ h => h) (Or.inl ⟨by rfl, ?_⟩) hHeld ?_ ?_
                 rotate_left
                 ·rintro w' ⟨s0, s1, s2, s3, s4, s5, s6, s7⟩
                  go_simp
                  with_reducible rfl
                 rotate_left
                 ·simp only [Act.put, List.setIfInBounds_toArray, List.set_cons_zero, List.set_cons_succ, i64_w, i32_w]
                  rfl
                 refine pure_ (i := 4) (N := some 81) (v := ?_) (a' := ?_) #[true, false, true, true, true, false, false, false, false, false] rfl rfl (any_of HT_.out (by kernel_rfl)) (fun _ _ _ h => h) (Or.inl ⟨by rfl, ?_⟩) ?_ ?_
                 rotate_left
                 ·intro w'
                  go_simp
                  with_reducible rfl
                 rotate_left
                 ·simp only [Act.put, List.setIfInBounds_toArray, List.set_cons_zero, List.set_cons_succ, i64_w, i32_w]
                  rfl
                 refine one_ (i := 1) (N := some 78) #[true, true, true, true, true, false, false, false, false, false] rfl rfl (one_of HT_.out (by kernel_rfl)) (by decide) (fun K hK => ?_)
                 refine goes_ Tryd.func25 (by kernel_rfl) rfl #[] (by rfl) rfl rfl (by (try simp only [List.map_toArray, List.map_cons, List.map_nil]); first | done | rfl | (simp only [List.length_drop, List.length_take]; rfl)) ?_
                 with_reducible refine (paybookref12_Steps.calls  t295 _ A107.out).mono ?_
                 rintro e w120 ⟨v296, rfl, ho0, hb⟩
                 refine ⟨_, rfl, ?_⟩
                 have n0_ := Aside0.mk (Kd.R_elder' (by (with_reducible repeat (first | apply Kd.R_alloc | apply Kd.R_drewN | apply Kd.R_drew)); exact HO294.out) (Kd.R_base ho0) hb)
                 have n1_ := Aside0.mk (Kd.R_lower (Kd.R_new' ho0 (Kd.R_lt (by (with_reducible repeat (first | apply Kd.R_alloc | apply Kd.R_drewN | apply Kd.R_drew)); exact HO294.out))) (below_size (by repeat (first | (with_reducible first | exact HB.out | apply kL | apply kM | apply kE | refine kS ?_ GE273.out | refine kS ?_ GE274.out | refine kS ?_ GE275.out | refine kS ?_ GE283.out) | exact HB.out))))
                 have n2_ := Aside0.mk (blk_below (g := gb273) (o := .cells #[.int .i64 a1_0, .int .i64 a1_1, .int .u8 2, .int .i64 a1_3, .int .i64 a1_4, .int .i64 a1_5, .int .i64 a1_6, .bool a1_7] 32 (0, 0)) (by (with_reducible repeat (first | refine kN ?_ _ | refine kD ?_ | refine kA ?_ _)); exact BK273.out) hb)
                 have n3_ := Aside0.mk (blk_below (g := gb274) (o := .cells #[.int .u8 a2_0, .int .i64 a2_1, .int .i64 a2_2, .int .i64 a2_3, .int .i64 a2_4, .int .u8 a2_5] 28 (0, 0)) (by (with_reducible repeat (first | refine kN ?_ _ | refine kD ?_ | refine kA ?_ _)); exact BK274.out) hb)
                 have n4_ := Aside0.mk (blk_below (g := gb275) (o := .cells #[.int .i64 0, .int .i64 0, .int .u8 0, .int .i64 0, .int .i64 0, .int .i64 0, .int .i64 0, .bool false] 32 (0, 0)) (by (with_reducible repeat (first | refine kN ?_ _ | refine kD ?_ | refine kA ?_ _)); exact BK275.out) hb)
                 have n5_ := Aside0.mk (blk_below (g := gb283) (o := .cells #[.int .u8 t276, .int .i64 t277, .int .i64 t278, .int .i64 t279, .int .i64 t280, .int .u8 a2_5] 28 (0, 0)) (by (with_reducible repeat (first | refine kN ?_ _ | refine kD ?_ | refine kA ?_ _)); exact BK283.out) hb)
                 have n6_ := Aside0.mk (below_step (by repeat (first | (with_reducible first | exact HB.out | apply kL | apply kM | apply kE | refine kS ?_ GE273.out | refine kS ?_ GE274.out | refine kS ?_ GE275.out | refine kS ?_ GE283.out) | exact HB.out)) hb)
                 clear HO294
                 clear BK273
                 clear BK274
                 clear BK275
                 clear BK283
                 clear HB
                 have HO294 := n0_
                 have HO297 := n1_
                 have BK273 := n2_
                 have BK274 := n3_
                 have BK275 := n4_
                 have BK283 := n5_
                 have HB := n6_
                 clear n0_ n1_ n2_ n3_ n4_ n5_ n6_
                 (try clear hb)
                 (try clear hb2)
                 (try clear hk)
                 (try clear hi)
                 (try clear ho0)
                 obtain ⟨Ao121, co121, eo121⟩ := Kd.R_slice HO297.out
                 (first | subst eo121 | (injection eo121 with f1_ f2_ f3_; have f4_ := f1_.symm; have f5_ := f3_.symm; clear f1_ f2_ f3_; subst f4_; subst f5_))
                 have p298 : 0 ≤ ((ji108) : Int) := of_decide_eq_true (by first | (with_reducible assumption) | assumption)
                 have q298 : (ji108) < (t295.length : Int) := of_decide_eq_true (by first | (with_reducible assumption) | assumption)
                 obtain ⟨ad298, e298, hx298_0⟩ := Kd.at_int (Kd.R_reads' HO297.out).2.2 (ji108) p298 q298
                 cases e298
                 replace p298 := eq_true p298
                 replace q298 := eq_true q298
                 refine hK.out _ _ ⟨(kC BK273.out 0).trans rfl, (kC BK273.out 1).trans rfl, (kC BK273.out 2).trans rfl, (kC BK273.out 3).trans rfl, (kC BK273.out 4).trans rfl, (kC BK273.out 5).trans rfl, (kC BK273.out 6).trans rfl, (kC BK273.out 7).trans rfl⟩ (fun hHeld => ?_)
                 clear hK K
                 refine norm_ (a' := ?_) ?_ ?_
                 rotate_left
                 ·show Act.put _ (some 78) _ = _
                  simp only [Act.put, List.setIfInBounds_toArray, List.set_cons_zero, List.set_cons_succ, i64_w, i32_w]
                  rfl
                 refine pure_ (i := 5) (N := some 82) (v := ?_) (a' := ?_) #[true, true, true, true, true, true, false, false, false, false] rfl rfl (any_of HT_.out (by kernel_rfl)) (fun _ _ _ h => h) (Or.inl ⟨by rfl, ?_⟩) ?_ ?_
                 rotate_left
                 ·intro w'
                  go_simp
                  with_reducible rfl
                 rotate_left
                 ·simp only [Act.put, List.setIfInBounds_toArray, List.set_cons_zero, List.set_cons_succ, i64_w, i32_w]
                  rfl
                 refine one_ (i := 6) (N := some 83) #[true, true, true, true, true, true, true, false, false, false] rfl rfl (one_of HT_.out (by kernel_rfl)) (by decide) (fun K hK => ?_)
                 refine value_ (w1 := ?_) (v := ?_) (by rfl) rfl ?_ ?_
                 rotate_left 2
                 · go_simp
                   constructor
                   · rfl
                   · rfl
                 refine hK.out _ _ ⟨(kC BK273.out 0).trans rfl, (kC BK273.out 1).trans rfl, (kC BK273.out 2).trans rfl, (kC BK273.out 3).trans rfl, (kC BK273.out 4).trans rfl, (kC BK273.out 5).trans rfl, (kC BK273.out 6).trans rfl, (kC BK273.out 7).trans rfl⟩ (fun hHeld => ?_)
                 clear hK K
                 refine norm_ (a' := ?_) ?_ ?_
                 rotate_left
                 ·show Act.put _ (some 83) _ = _
                  simp only [Act.put, List.setIfInBounds_toArray, List.set_cons_zero, List.set_cons_succ, i64_w, i32_w]
                  rfl
                 refine pure_ (i := 7) (N := some 84) (v := ?_) (a' := ?_) #[true, true, true, true, true, true, true, true, false, false] rfl rfl (any_of HT_.out (by kernel_rfl)) (fun _ _ _ h => h) (Or.inl ⟨by rfl, ?_⟩) ?_ ?_
                 rotate_left
                 ·intro w'
                  go_simp
                  with_reducible rfl
                 rotate_left
                 ·simp only [Act.put, List.setIfInBounds_toArray, List.set_cons_zero, List.set_cons_succ, i64_w, i32_w]
                  rfl
                 refine pure_ (i := 8) (N := some 85) (v := ?_) (a' := ?_) #[true, true, true, true, true, true, true, true, true, false] rfl rfl (any_of HT_.out (by kernel_rfl)) (fun _ _ _ h => h) (Or.inl ⟨by rfl, ?_⟩) ?_ ?_
                 rotate_left
                 ·intro w'
                  go_simp
                  with_reducible rfl
                 rotate_left
                 ·simp only [Act.put, List.setIfInBounds_toArray, List.set_cons_zero, List.set_cons_succ, i64_w, i32_w]
                  rfl
                 refine last_ (i := 9) (N := none) #[true, true, true, true, true, true, true, true, true, true] rfl rfl (one_of HT_.out (by kernel_rfl)) (by decide) (fun K hK => ?_)
                 have hs122 : w120.cell? ⟨gb273, 6, none⟩ = some (.int .i64 a1_6) := (kC BK273.out 6).trans rfl
                 have hfs122 := kF BK273.out 6
                 have hns122_1 := NB274_273.out
                 have hns122_2 := NB275_273.out
                 have hns122_3 := NB283_273.out
                 have hms122_1 := NB273_274.out
                 have hms122_2 := NB273_275.out
                 have hms122_3 := NB273_283.out
                 refine skip_ (w1 := ?_) (by rfl) rfl ?_ ?_
                 rotate_left
                 ·go_simp
                  rfl
                 refine hK.out _ _ ?_
                 clear hK K
                 refine done_ (done_of HT_.out (by kernel_rfl)) ?_
                 obtain ⟨hcz123_0, hcz123_1, hcz123_2, hcz123_3, hcz123_4, hcz123_5, hcz123_6, hcz123_7, hfz123_0, hfz123_1, hfz123_2, hfz123_3, hfz123_4, hfz123_5, hfz123_6, hfz123_7⟩ := bxc8 BK273.out
                 have hnb124 := NB275_274.out
                 have hnc124 := NB274_275.out
                 have hnb125 := NB275_283.out
                 have hnc125 := NB283_275.out
                 obtain ⟨hcz126_0, hcz126_1, hcz126_2, hcz126_3, hcz126_4, hcz126_5, hcz126_6, hcz126_7, hfz126_0, hfz126_1, hfz126_2, hfz126_3, hfz126_4, hfz126_5, hfz126_6, hfz126_7⟩ := bxc8 BK275.out
                 try go_wp2_with (first | ((with_reducible refine gate_store (t := 32) (p := 10) rfl ?_); refine store_event (t := 32) (p := 10) (v := ?vo_w127) (w1 := (((((((((w120.setCell ⟨gb273, 6, none⟩ (.int .i64 (wrap64 (a3 + (rd t295 (ji108)))))).setCell ⟨gb275, 0, none⟩ (.int .i64 a1_0)).setCell ⟨gb275, 1, none⟩ (.int .i64 a1_1)).setCell ⟨gb275, 2, none⟩ (.int .u8 2)).setCell ⟨gb275, 3, none⟩ (.int .i64 a1_3)).setCell ⟨gb275, 4, none⟩ (.int .i64 a1_4)).setCell ⟨gb275, 5, none⟩ (.int .i64 a1_5)).setCell ⟨gb275, 6, none⟩ (.int .i64 (wrap64 (a3 + (rd t295 (ji108)))))).setCell ⟨gb275, 7, none⟩ (.bool a1_7))) ?hg ?ho ?hn ?hr ?_; (case ho => rfl); (case hg => rfl); (case hn => rfl); (case hr => first | exact Eq.trans (store_run (cells := #[.int .i64 a1_0, .int .i64 a1_1, .int .u8 2, .int .i64 a1_3, .int .i64 a1_4, .int .i64 a1_5, .int .i64 (wrap64 (a3 + (rd t295 (ji108)))), .bool a1_7]) #[.int .i64 0, .int .i64 0, .int .u8 0, .int .i64 0, .int .i64 0, .int .i64 0, .int .i64 0, .bool false] (by rfl) (by rfl) (by rfl) (by (with_reducible repeat (first | refine kN ?_ _ | refine kD ?_ | refine kA ?_ _ | refine kR ?_ NB275_273.out _)); (with_reducible repeat (first | refine kN ?_ _ | refine kD ?_ | refine kA ?_ _)); exact BK275.out) (Nat.le_refl 8) (by kernel_rfl) (by kernel_rfl)) (by rfl) | (go_simp; done) | (go_simp; rfl)); intro w127 hw; have n0_ : Aside0 (Kd.R (Kd.int .i64) 3 w127 w.heap.size (fun k_ => some k_ ≠ (.slice (some ad298) t295.length co121 : Value).ownBlock) (.slice Ao113 t292.length co113) t292) := ⟨(by rw [hw]; exact (by (with_reducible repeat (first | apply Kd.R_alloc | apply Kd.R_drewN | apply Kd.R_drew)); exact Kd.R_mono (Kd.R_far (p := ⟨gb275, 7, none⟩) (Kd.R_far (p := ⟨gb275, 6, none⟩) (Kd.R_far (p := ⟨gb275, 5, none⟩) (Kd.R_far (p := ⟨gb275, 4, none⟩) (Kd.R_far (p := ⟨gb275, 3, none⟩) (Kd.R_far (p := ⟨gb275, 2, none⟩) (Kd.R_far (p := ⟨gb275, 1, none⟩) (Kd.R_far (p := ⟨gb275, 0, none⟩) (Kd.R_far (p := ⟨gb273, 6, none⟩) (Kd.R_types (Kd.R_types HO294.out BK273.out (by decide)) BK275.out (by decide)) (fun _ hk => hk.1.2) (.int .i64 (wrap64 (a3 + (rd t295 (ji108)))))) (fun _ hk => hk.2) (.int .i64 a1_0)) (fun _ hk => hk.2) (.int .i64 a1_1)) (fun _ hk => hk.2) (.int .u8 2)) (fun _ hk => hk.2) (.int .i64 a1_3)) (fun _ hk => hk.2) (.int .i64 a1_4)) (fun _ hk => hk.2) (.int .i64 a1_5)) (fun _ hk => hk.2) (.int .i64 (wrap64 (a3 + (rd t295 (ji108)))))) (fun _ hk => hk.2) (.bool a1_7)) (fun _ hk => hk.1.1.2)))⟩; have n1_ : Aside0 (Kd.R (Kd.int .i64) 3 w127 w.heap.size (fun k_ => some k_ ≠ (.slice Ao113 t292.length co113 : Value).ownBlock) (.slice (some ad298) t295.length co121) t295) := ⟨(by rw [hw]; exact (by (with_reducible repeat (first | apply Kd.R_alloc | apply Kd.R_drewN | apply Kd.R_drew)); exact Kd.R_mono (Kd.R_far (p := ⟨gb275, 7, none⟩) (Kd.R_far (p := ⟨gb275, 6, none⟩) (Kd.R_far (p := ⟨gb275, 5, none⟩) (Kd.R_far (p := ⟨gb275, 4, none⟩) (Kd.R_far (p := ⟨gb275, 3, none⟩) (Kd.R_far (p := ⟨gb275, 2, none⟩) (Kd.R_far (p := ⟨gb275, 1, none⟩) (Kd.R_far (p := ⟨gb275, 0, none⟩) (Kd.R_far (p := ⟨gb273, 6, none⟩) (Kd.R_types (Kd.R_types HO297.out BK273.out (by decide)) BK275.out (by decide)) (fun _ hk => hk.1.2) (.int .i64 (wrap64 (a3 + (rd t295 (ji108)))))) (fun _ hk => hk.2) (.int .i64 a1_0)) (fun _ hk => hk.2) (.int .i64 a1_1)) (fun _ hk => hk.2) (.int .u8 2)) (fun _ hk => hk.2) (.int .i64 a1_3)) (fun _ hk => hk.2) (.int .i64 a1_4)) (fun _ hk => hk.2) (.int .i64 a1_5)) (fun _ hk => hk.2) (.int .i64 (wrap64 (a3 + (rd t295 (ji108)))))) (fun _ hk => hk.2) (.bool a1_7)) (fun _ hk => hk.1.1.2)))⟩; have n2_ : Aside0 (w127.heap[gb273]? = some (.cells #[.int .i64 a1_0, .int .i64 a1_1, .int .u8 2, .int .i64 a1_3, .int .i64 a1_4, .int .i64 a1_5, .int .i64 (wrap64 (a3 + (rd t295 (ji108)))), .bool a1_7] 32 (0, 0))) := ⟨(by rw [hw]; exact (by (with_reducible repeat (first | refine kN ?_ _ | refine kD ?_ | refine kA ?_ _ | refine kR ?_ NB273_275.out _)); (with_reducible repeat (first | refine kN ?_ _ | refine kD ?_ | refine kA ?_ _)); refine bxp8_6 (o := .int .i64 a1_6) ?_; (with_reducible repeat (first | refine kN ?_ _ | refine kD ?_ | refine kA ?_ _)); exact BK273.out))⟩; have n3_ : Aside0 (w127.heap[gb274]? = some (.cells #[.int .u8 a2_0, .int .i64 a2_1, .int .i64 a2_2, .int .i64 a2_3, .int .i64 a2_4, .int .u8 a2_5] 28 (0, 0))) := ⟨(by rw [hw]; exact (by (with_reducible repeat (first | refine kN ?_ _ | refine kD ?_ | refine kA ?_ _ | refine kR ?_ NB274_275.out _ | refine kR ?_ NB274_273.out _)); (with_reducible repeat (first | refine kN ?_ _ | refine kD ?_ | refine kA ?_ _)); exact BK274.out))⟩; have n4_ : Aside0 (w127.heap[gb275]? = some (.cells #[.int .i64 a1_0, .int .i64 a1_1, .int .u8 2, .int .i64 a1_3, .int .i64 a1_4, .int .i64 a1_5, .int .i64 (wrap64 (a3 + (rd t295 (ji108)))), .bool a1_7] 32 (0, 0))) := ⟨(by rw [hw]; exact (by (with_reducible repeat (first | refine kN ?_ _ | refine kD ?_ | refine kA ?_ _)); refine bxw8 (.int .i64 0) (.int .i64 0) (.int .u8 0) (.int .i64 0) (.int .i64 0) (.int .i64 0) (.int .i64 0) (.bool false) ?_; (with_reducible repeat (first | refine kN ?_ _ | refine kD ?_ | refine kA ?_ _ | refine kR ?_ NB275_273.out _)); (with_reducible repeat (first | refine kN ?_ _ | refine kD ?_ | refine kA ?_ _)); exact BK275.out))⟩; have n5_ : Aside0 (w127.heap[gb283]? = some (.cells #[.int .u8 t276, .int .i64 t277, .int .i64 t278, .int .i64 t279, .int .i64 t280, .int .u8 a2_5] 28 (0, 0))) := ⟨(by rw [hw]; exact (by (with_reducible repeat (first | refine kN ?_ _ | refine kD ?_ | refine kA ?_ _ | refine kR ?_ NB283_275.out _ | refine kR ?_ NB283_273.out _)); (with_reducible repeat (first | refine kN ?_ _ | refine kD ?_ | refine kA ?_ _)); exact BK283.out))⟩; have n6_ : Aside0 (Below w.heap.size w w127) := ⟨(by rw [hw]; exact (by repeat (first | (with_reducible first | exact HB.out | apply kL | apply kM | apply kE | refine kS ?_ GE273.out | refine kS ?_ GE274.out | refine kS ?_ GE275.out | refine kS ?_ GE283.out) | exact HB.out)))⟩; clear hw; clear HO294; clear HO297; clear BK273; clear BK274; clear BK275; clear BK283; clear HB; have HO294 := n0_; have HO297 := n1_; have BK273 := n2_; have BK274 := n3_; have BK275 := n4_; have BK283 := n5_; have HB := n6_; clear n0_ n1_ n2_ n3_ n4_ n5_ n6_))
                 refine bodyPost_ret (results_ct rfl _ _ gb275 32 #[.int .i64 a1_0, .int .i64 a1_1, .int .u8 2, .int .i64 a1_3, .int .i64 a1_4, .int .i64 a1_5, .int .i64 (wrap64 (a3 + (rd t295 (ji108)))), .bool a1_7] (0, 0) _ rfl (by (with_reducible repeat (first | refine kN ?_ _ | refine kD ?_ | refine kA ?_ _)); exact BK275.out) Tryd.underlying32 rfl (by kernel_rfl)) rfl ?_
                 exact ⟨by first | rfl | (simp [errW_none, errW_some] <;> rfl) | (simp only [← hji108]; first | rfl | (simp [errW_none, errW_some] <;> rfl)) | (simp [*, errW_none, errW_some] <;> rfl), by repeat (first | (with_reducible first | exact HB.out | apply kL | apply kM | apply kE | refine kS ?_ GE273.out | refine kS ?_ GE274.out | refine kS ?_ GE275.out | refine kS ?_ GE283.out) | exact HB.out)⟩
                ·rw [if_neg c110] at H
                 exact absurd H (by simp)
               ·rw [if_neg c109] at H
                exact absurd H (by simp)
              ·rw [if_neg c106] at H
               have c106b0 : decide (a1_5 ≤ (t292.length : Int)) = false := decide_eq_false c106
               clear c106
               simp only [Option.some.injEq, Prod.mk.injEq] at H
               obtain ⟨rfl, rfl, rfl, rfl, rfl, rfl, rfl, rfl, rfl⟩ := H
               try go_wp2
               have n0_ := Aside0.mk (kD BK273.out)
               have n1_ := Aside0.mk (kD BK274.out)
               have n2_ := Aside0.mk (kD BK275.out)
               have n3_ := Aside0.mk (kD BK283.out)
               have n4_ := Aside0.mk (kE HB.out)
               clear BK273
               clear BK274
               clear BK275
               clear BK283
               clear HB
               have BK273 := n0_
               have BK274 := n1_
               have BK275 := n2_
               have BK283 := n3_
               have HB := n4_
               clear n0_ n1_ n2_ n3_ n4_
               refine start_ (n := 14) (S := fun w' => w'.cell? ⟨gb274, 0, none⟩ = some (.int .u8 a2_0) ∧ w'.cell? ⟨gb274, 1, none⟩ = some (.int .i64 a2_1) ∧ w'.cell? ⟨gb274, 2, none⟩ = some (.int .i64 a2_2) ∧ w'.cell? ⟨gb274, 3, none⟩ = some (.int .i64 a2_3) ∧ w'.cell? ⟨gb274, 4, none⟩ = some (.int .i64 a2_4) ∧ w'.cell? ⟨gb274, 5, none⟩ = some (.int .u8 a2_5) ∧ w'.cell? ⟨gb273, 0, none⟩ = some (.int .i64 a1_0) ∧ w'.cell? ⟨gb273, 1, none⟩ = some (.int .i64 a1_1) ∧ w'.cell? ⟨gb273, 2, none⟩ = some (.int .u8 8) ∧ w'.cell? ⟨gb273, 3, none⟩ = some (.int .i64 a1_3) ∧ w'.cell? ⟨gb273, 4, none⟩ = some (.int .i64 a1_4) ∧ w'.cell? ⟨gb273, 5, none⟩ = some (.int .i64 a1_5) ∧ w'.cell? ⟨gb273, 6, none⟩ = some (.int .i64 a1_6) ∧ w'.cell? ⟨gb273, 7, none⟩ = some (.bool a1_7)) (ds := []) #[F,F,F,F,F,F,F,F,F,F,F,F,F,F] (by kernel_rfl) rfl rfl ⟨(kC BK274.out 0).trans rfl, (kC BK274.out 1).trans rfl, (kC BK274.out 2).trans rfl, (kC BK274.out 3).trans rfl, (kC BK274.out 4).trans rfl, (kC BK274.out 5).trans rfl, (kC BK273.out 0).trans rfl, (kC BK273.out 1).trans rfl, (kC BK273.out 2).trans rfl, (kC BK273.out 3).trans rfl, (kC BK273.out 4).trans rfl, (kC BK273.out 5).trans rfl, (kC BK273.out 6).trans rfl, (kC BK273.out 7).trans rfl⟩ (fun hHeld => ?_); refine with_tabW paybookref12_Hear.tab17 paybookref12_Hear.bits17 (fun HT_ HW_ => ?_)
               generalize wc.drew = w128 at BK273 BK274 BK275 BK283 HB hHeld ⊢
               refine pure_ (i := 0) (N := some 62) (v := ?_) (a' := ?_) #[T,F,F,F,F,F,F,F,F,F,F,F,F,F] rfl rfl (any_of HT_.out (by kernel_rfl)) (fun _ _ _ h => h) (Or.inl ⟨by rfl, ?_⟩) ?_ ?_
               rotate_left
               ·intro w'
                go_simp
                with_reducible rfl
               rotate_left
               ·simp only [Act.put, List.setIfInBounds_toArray, List.set_cons_zero, List.set_cons_succ, i64_w, i32_w]
                rfl
               refine take_ (i := 1) (N := some 63) (v := ?_) (a' := ?_) #[T,T,F,F,F,F,F,F,F,F,F,F,F,F] rfl rfl (take_ofW HT_.out HW_.out (by kernel_rfl)) (fun _ _ _ h => h) (Or.inl ⟨by rfl, ?_⟩) hHeld ?_ ?_
               rotate_left
               ·rintro w' ⟨s0, s1, s2, s3, s4, s5, s6, s7, s8, s9, s10, s11, s12, s13⟩
                go_simp
                with_reducible rfl
               rotate_left
               ·simp only [Act.put, List.setIfInBounds_toArray, List.set_cons_zero, List.set_cons_succ, i64_w, i32_w]
                rfl
               refine pure_ (i := 2) (N := some 64) (v := ?_) (a' := ?_) #[T,T,T,F,F,F,F,F,F,F,F,F,F,F] rfl rfl (any_of HT_.out (by kernel_rfl)) (fun _ _ _ h => h) (Or.inl ⟨by rfl, ?_⟩) ?_ ?_
               rotate_left
               ·intro w'
                go_simp
                with_reducible rfl
               rotate_left
               ·simp only [Act.put, List.setIfInBounds_toArray, List.set_cons_zero, List.set_cons_succ, i64_w, i32_w]
                rfl
               refine pure_ (i := 3) (N := some 65) (v := ?_) (a' := ?_) #[T,T,T,T,F,F,F,F,F,F,F,F,F,F] rfl rfl (any_of HT_.out (by kernel_rfl)) (fun _ _ _ h => h) (Or.inl ⟨by rfl, ?_⟩) ?_ ?_
               rotate_left
               ·intro w'
                go_simp
                with_reducible rfl
               rotate_left
               ·simp only [Act.put, List.setIfInBounds_toArray, List.set_cons_zero, List.set_cons_succ, i64_w, i32_w]
                rfl
               refine pure_ (i := 4) (N := some 66) (v := ?_) (a' := ?_) #[T,T,T,T,T,F,F,F,F,F,F,F,F,F] rfl rfl (any_of HT_.out (by kernel_rfl)) (fun _ _ _ h => h) (Or.inl ⟨by rfl, ?_⟩) ?_ ?_
               rotate_left
               ·intro w'
                go_simp
                with_reducible rfl
               rotate_left
               ·simp only [Act.put, List.setIfInBounds_toArray, List.set_cons_zero, List.set_cons_succ, i64_w, i32_w]
                rfl
               refine pure_ (i := 5) (N := some 67) (v := ?_) (a' := ?_) #[T,T,T,T,T,T,F,F,F,F,F,F,F,F] rfl rfl (any_of HT_.out (by kernel_rfl)) (fun _ _ _ h => h) (Or.inl ⟨by rfl, ?_⟩) ?_ ?_
               rotate_left
               ·intro w'
                go_simp
                with_reducible rfl
               rotate_left
               ·simp only [Act.put, List.setIfInBounds_toArray, List.set_cons_zero, List.set_cons_succ, i64_w, i32_w]
                rfl
               refine pure_ (i := 6) (N := some 68) (v := ?_) (a' := ?_) #[T,T,T,T,T,T,T,F,F,F,F,F,F,F] rfl rfl (any_of HT_.out (by kernel_rfl)) (fun _ _ _ h => h) (Or.inl ⟨by rfl, ?_⟩) ?_ ?_
               rotate_left
               ·intro w'
                go_simp
                with_reducible rfl
               rotate_left
               ·simp only [Act.put, List.setIfInBounds_toArray, List.set_cons_zero, List.set_cons_succ, i64_w, i32_w]
                rfl
               refine pure_ (i := 7) (N := some 69) (v := ?_) (a' := ?_) #[T,T,T,T,T,T,T,T,F,F,F,F,F,F] rfl rfl (any_of HT_.out (by kernel_rfl)) (fun _ _ _ h => h) (Or.inl ⟨by rfl, ?_⟩) ?_ ?_
               rotate_left
               ·intro w'
                go_simp
                with_reducible rfl
               rotate_left
               ·simp only [Act.put, List.setIfInBounds_toArray, List.set_cons_zero, List.set_cons_succ, i64_w, i32_w]
                rfl
               refine pure_ (i := 8) (N := some 70) (v := ?_) (a' := ?_) #[T,T,T,T,T,T,T,T,T,F,F,F,F,F] rfl rfl (any_of HT_.out (by kernel_rfl)) (fun _ _ _ h => h) (Or.inl ⟨by rfl, ?_⟩) ?_ ?_
               rotate_left
               ·intro w'
                go_simp
                with_reducible rfl
               rotate_left
               ·simp only [Act.put, List.setIfInBounds_toArray, List.set_cons_zero, List.set_cons_succ, i64_w, i32_w]
                rfl
               refine take_ (i := 9) (N := some 71) (v := ?_) (a' := ?_) #[T,T,T,T,T,T,T,T,T,T,F,F,F,F] rfl rfl (take_ofW HT_.out HW_.out (by kernel_rfl)) (fun _ _ _ h => h) (Or.inl ⟨by rfl, ?_⟩) hHeld ?_ ?_
               rotate_left
               ·rintro w' ⟨s0, s1, s2, s3, s4, s5, s6, s7, s8, s9, s10, s11, s12, s13⟩
                go_simp
                with_reducible rfl
               rotate_left
               ·simp only [Act.put, List.setIfInBounds_toArray, List.set_cons_zero, List.set_cons_succ, i64_w, i32_w]
                rfl
               refine one_ (i := 10) (N := some 72) #[T,T,T,T,T,T,T,T,T,T,T,F,F,F] rfl rfl (one_of HT_.out (by kernel_rfl)) (by decide) (fun K hK => ?_)
               refine goes_ Tryd.func25 (by kernel_rfl) rfl #[] (by rfl) rfl rfl (by (try simp only [List.map_toArray, List.map_cons, List.map_nil]); first | done | rfl | (simp only [List.length_drop, List.length_take]; rfl)) ?_
               with_reducible refine (paybookref12_Steps.calls  t292 _ A105.out).mono ?_
               rintro e w129 ⟨v293, rfl, ho0, hb⟩
               refine ⟨_, rfl, ?_⟩
               have n0_ := Aside0.mk (Kd.R_lower ho0 (below_size (by repeat (first | (with_reducible first | exact HB.out | apply kL | apply kM | apply kE | refine kS ?_ GE273.out | refine kS ?_ GE274.out | refine kS ?_ GE275.out | refine kS ?_ GE283.out) | exact HB.out))))
               have n1_ := Aside0.mk (blk_below (g := gb273) (o := .cells #[.int .i64 a1_0, .int .i64 a1_1, .int .u8 8, .int .i64 a1_3, .int .i64 a1_4, .int .i64 a1_5, .int .i64 a1_6, .bool a1_7] 32 (0, 0)) (by (with_reducible repeat (first | refine kN ?_ _ | refine kD ?_ | refine kA ?_ _)); exact BK273.out) hb)
               have n2_ := Aside0.mk (blk_below (g := gb274) (o := .cells #[.int .u8 a2_0, .int .i64 a2_1, .int .i64 a2_2, .int .i64 a2_3, .int .i64 a2_4, .int .u8 a2_5] 28 (0, 0)) (by (with_reducible repeat (first | refine kN ?_ _ | refine kD ?_ | refine kA ?_ _)); exact BK274.out) hb)
               have n3_ := Aside0.mk (blk_below (g := gb275) (o := .cells #[.int .i64 0, .int .i64 0, .int .u8 0, .int .i64 0, .int .i64 0, .int .i64 0, .int .i64 0, .bool false] 32 (0, 0)) (by (with_reducible repeat (first | refine kN ?_ _ | refine kD ?_ | refine kA ?_ _)); exact BK275.out) hb)
               have n4_ := Aside0.mk (blk_below (g := gb283) (o := .cells #[.int .u8 t276, .int .i64 t277, .int .i64 t278, .int .i64 t279, .int .i64 t280, .int .u8 a2_5] 28 (0, 0)) (by (with_reducible repeat (first | refine kN ?_ _ | refine kD ?_ | refine kA ?_ _)); exact BK283.out) hb)
               have n5_ := Aside0.mk (below_step (by repeat (first | (with_reducible first | exact HB.out | apply kL | apply kM | apply kE | refine kS ?_ GE273.out | refine kS ?_ GE274.out | refine kS ?_ GE275.out | refine kS ?_ GE283.out) | exact HB.out)) hb)
               clear BK273
               clear BK274
               clear BK275
               clear BK283
               clear HB
               have HO294 := n0_
               have BK273 := n1_
               have BK274 := n2_
               have BK275 := n3_
               have BK283 := n4_
               have HB := n5_
               clear n0_ n1_ n2_ n3_ n4_ n5_
               (try clear hb)
               (try clear hb2)
               (try clear hk)
               (try clear hi)
               (try clear ho0)
               obtain ⟨Ao130, co130, eo130⟩ := Kd.R_slice HO294.out
               (first | subst eo130 | (injection eo130 with f1_ f2_ f3_; have f4_ := f1_.symm; have f5_ := f3_.symm; clear f1_ f2_ f3_; subst f4_; subst f5_))
               refine hK.out _ _ ⟨(kC BK274.out 0).trans rfl, (kC BK274.out 1).trans rfl, (kC BK274.out 2).trans rfl, (kC BK274.out 3).trans rfl, (kC BK274.out 4).trans rfl, (kC BK274.out 5).trans rfl, (kC BK273.out 0).trans rfl, (kC BK273.out 1).trans rfl, (kC BK273.out 2).trans rfl, (kC BK273.out 3).trans rfl, (kC BK273.out 4).trans rfl, (kC BK273.out 5).trans rfl, (kC BK273.out 6).trans rfl, (kC BK273.out 7).trans rfl⟩ (fun hHeld => ?_)
               clear hK K
               refine norm_ (a' := ?_) ?_ ?_
               rotate_left
               ·show Act.put _ (some 72) _ = _
                simp only [Act.put, List.setIfInBounds_toArray, List.set_cons_zero, List.set_cons_succ, i64_w, i32_w]
                rfl
               refine pure_ (i := 11) (N := some 73) (v := ?_) (a' := ?_) #[T,T,T,T,T,T,T,T,T,T,T,T,F,F] rfl rfl (any_of HT_.out (by kernel_rfl)) (fun _ _ _ h => h) (Or.inl ⟨by rfl, ?_⟩) ?_ ?_
               rotate_left
               ·intro w'
                go_simp
                with_reducible rfl
               rotate_left
               ·simp only [Act.put, List.setIfInBounds_toArray, List.set_cons_zero, List.set_cons_succ, i64_w, i32_w]
                rfl
               refine pure_ (i := 12) (N := some 74) (v := ?_) (a' := ?_) #[T,T,T,T,T,T,T,T,T,T,T,T,T,F] rfl rfl (any_of HT_.out (by kernel_rfl)) (fun _ _ _ h => h) (Or.inl ⟨by rfl, ?_⟩) ?_ ?_
               rotate_left
               ·intro w'
                go_simp
                with_reducible rfl
               rotate_left
               ·simp only [Act.put, List.setIfInBounds_toArray, List.set_cons_zero, List.set_cons_succ, i64_w, i32_w]
                rfl
               refine pure_ (i := 13) (N := some 75) (v := ?_) (a' := ?_) #[T,T,T,T,T,T,T,T,T,T,T,T,T,T] rfl rfl (any_of HT_.out (by kernel_rfl)) (fun _ _ _ h => h) (Or.inl ⟨by rfl, ?_⟩) ?_ ?_
               rotate_left
               ·intro w'
                go_simp
                with_reducible rfl
               rotate_left
               ·simp only [Act.put, List.setIfInBounds_toArray, List.set_cons_zero, List.set_cons_succ, i64_w, i32_w]
                rfl
               refine done_ (done_of HT_.out (by kernel_rfl)) ?_
               have hnb131 := NB273_274.out
               have hnc131 := NB274_273.out
               have hnb132 := NB273_275.out
               have hnc132 := NB275_273.out
               have hnb133 := NB273_283.out
               have hnc133 := NB283_273.out
               obtain ⟨hcz134_0, hcz134_1, hcz134_2, hcz134_3, hcz134_4, hcz134_5, hcz134_6, hcz134_7, hfz134_0, hfz134_1, hfz134_2, hfz134_3, hfz134_4, hfz134_5, hfz134_6, hfz134_7⟩ := bxc8 BK273.out
               have hnb135 := NB275_274.out
               have hnc135 := NB274_275.out
               have hnb136 := NB275_283.out
               have hnc136 := NB283_275.out
               obtain ⟨hcz137_0, hcz137_1, hcz137_2, hcz137_3, hcz137_4, hcz137_5, hcz137_6, hcz137_7, hfz137_0, hfz137_1, hfz137_2, hfz137_3, hfz137_4, hfz137_5, hfz137_6, hfz137_7⟩ := bxc8 BK275.out
               try go_wp2_with (first | ((with_reducible refine gate_store (t := 32) (p := 10) rfl ?_); refine store_event (t := 32) (p := 10) (v := ?vo_w138) (w1 := ((((((((w129.setCell ⟨gb275, 0, none⟩ (.int .i64 a1_0)).setCell ⟨gb275, 1, none⟩ (.int .i64 a1_1)).setCell ⟨gb275, 2, none⟩ (.int .u8 8)).setCell ⟨gb275, 3, none⟩ (.int .i64 a1_3)).setCell ⟨gb275, 4, none⟩ (.int .i64 a1_4)).setCell ⟨gb275, 5, none⟩ (.int .i64 a1_5)).setCell ⟨gb275, 6, none⟩ (.int .i64 a1_6)).setCell ⟨gb275, 7, none⟩ (.bool a1_7))) ?hg ?ho ?hn ?hr ?_; (case ho => rfl); (case hg => rfl); (case hn => rfl); (case hr => first | exact Eq.trans (store_run (cells := #[.int .i64 a1_0, .int .i64 a1_1, .int .u8 8, .int .i64 a1_3, .int .i64 a1_4, .int .i64 a1_5, .int .i64 a1_6, .bool a1_7]) #[.int .i64 0, .int .i64 0, .int .u8 0, .int .i64 0, .int .i64 0, .int .i64 0, .int .i64 0, .bool false] (by rfl) (by rfl) (by rfl) (BK275.out) (Nat.le_refl 8) (by kernel_rfl) (by kernel_rfl)) (by rfl) | (go_simp; done) | (go_simp; rfl)); intro w138 hw; have n0_ : Aside0 (Kd.R (Kd.int .i64) 3 w138 w.heap.size (fun _ => True) (.slice Ao130 t292.length co130) t292) := ⟨(by rw [hw]; exact (by (with_reducible repeat (first | apply Kd.R_alloc | apply Kd.R_drewN | apply Kd.R_drew)); exact Kd.R_mono (Kd.R_far (p := ⟨gb275, 7, none⟩) (Kd.R_far (p := ⟨gb275, 6, none⟩) (Kd.R_far (p := ⟨gb275, 5, none⟩) (Kd.R_far (p := ⟨gb275, 4, none⟩) (Kd.R_far (p := ⟨gb275, 3, none⟩) (Kd.R_far (p := ⟨gb275, 2, none⟩) (Kd.R_far (p := ⟨gb275, 1, none⟩) (Kd.R_far (p := ⟨gb275, 0, none⟩) (Kd.R_types HO294.out BK275.out (by decide)) (fun _ hk => hk.2) (.int .i64 a1_0)) (fun _ hk => hk.2) (.int .i64 a1_1)) (fun _ hk => hk.2) (.int .u8 8)) (fun _ hk => hk.2) (.int .i64 a1_3)) (fun _ hk => hk.2) (.int .i64 a1_4)) (fun _ hk => hk.2) (.int .i64 a1_5)) (fun _ hk => hk.2) (.int .i64 a1_6)) (fun _ hk => hk.2) (.bool a1_7)) (fun _ hk => trivial)))⟩; have n1_ : Aside0 (w138.heap[gb273]? = some (.cells #[.int .i64 a1_0, .int .i64 a1_1, .int .u8 8, .int .i64 a1_3, .int .i64 a1_4, .int .i64 a1_5, .int .i64 a1_6, .bool a1_7] 32 (0, 0))) := ⟨(by rw [hw]; exact (by (with_reducible repeat (first | refine kN ?_ _ | refine kD ?_ | refine kA ?_ _ | refine kR ?_ NB273_275.out _)); (with_reducible repeat (first | refine kN ?_ _ | refine kD ?_ | refine kA ?_ _)); exact BK273.out))⟩; have n2_ : Aside0 (w138.heap[gb274]? = some (.cells #[.int .u8 a2_0, .int .i64 a2_1, .int .i64 a2_2, .int .i64 a2_3, .int .i64 a2_4, .int .u8 a2_5] 28 (0, 0))) := ⟨(by rw [hw]; exact (by (with_reducible repeat (first | refine kN ?_ _ | refine kD ?_ | refine kA ?_ _ | refine kR ?_ NB274_275.out _)); (with_reducible repeat (first | refine kN ?_ _ | refine kD ?_ | refine kA ?_ _)); exact BK274.out))⟩; have n3_ : Aside0 (w138.heap[gb275]? = some (.cells #[.int .i64 a1_0, .int .i64 a1_1, .int .u8 8, .int .i64 a1_3, .int .i64 a1_4, .int .i64 a1_5, .int .i64 a1_6, .bool a1_7] 32 (0, 0))) := ⟨(by rw [hw]; exact (by (with_reducible repeat (first | refine kN ?_ _ | refine kD ?_ | refine kA ?_ _)); refine bxw8 (.int .i64 0) (.int .i64 0) (.int .u8 0) (.int .i64 0) (.int .i64 0) (.int .i64 0) (.int .i64 0) (.bool false) ?_; (with_reducible repeat (first | refine kN ?_ _ | refine kD ?_ | refine kA ?_ _)); exact BK275.out))⟩; have n4_ : Aside0 (w138.heap[gb283]? = some (.cells #[.int .u8 t276, .int .i64 t277, .int .i64 t278, .int .i64 t279, .int .i64 t280, .int .u8 a2_5] 28 (0, 0))) := ⟨(by rw [hw]; exact (by (with_reducible repeat (first | refine kN ?_ _ | refine kD ?_ | refine kA ?_ _ | refine kR ?_ NB283_275.out _)); (with_reducible repeat (first | refine kN ?_ _ | refine kD ?_ | refine kA ?_ _)); exact BK283.out))⟩; have n5_ : Aside0 (Below w.heap.size w w138) := ⟨(by rw [hw]; exact (by repeat (first | (with_reducible first | exact HB.out | apply kL | apply kM | apply kE | refine kS ?_ GE273.out | refine kS ?_ GE274.out | refine kS ?_ GE275.out | refine kS ?_ GE283.out) | exact HB.out)))⟩; clear hw; clear HO294; clear BK273; clear BK274; clear BK275; clear BK283; clear HB; have HO294 := n0_; have BK273 := n1_; have BK274 := n2_; have BK275 := n3_; have BK283 := n4_; have HB := n5_; clear n0_ n1_ n2_ n3_ n4_ n5_))
               refine bodyPost_ret (results_ct rfl _ _ gb275 32 #[.int .i64 a1_0, .int .i64 a1_1, .int .u8 8, .int .i64 a1_3, .int .i64 a1_4, .int .i64 a1_5, .int .i64 a1_6, .bool a1_7] (0, 0) _ rfl (by (with_reducible repeat (first | refine kN ?_ _ | refine kD ?_ | refine kA ?_ _)); exact BK275.out) Tryd.underlying32 rfl (by kernel_rfl)) rfl ?_
               exact ⟨by first | rfl | (simp [errW_none, errW_some] <;> rfl) | (simp [*, errW_none, errW_some] <;> rfl), by repeat (first | (with_reducible first | exact HB.out | apply kL | apply kM | apply kE | refine kS ?_ GE273.out | refine kS ?_ GE274.out | refine kS ?_ GE275.out | refine kS ?_ GE283.out) | exact HB.out)⟩
            ·rw [if_neg c94] at H
             have c94b0 : (a2_5 == 2) = false := beq_eq_false_iff_ne.mpr c94
             have c94b1 : (a2_5 != 2) = true := bne_iff_ne.mpr c94
             simp only [Option.some.injEq, Prod.mk.injEq] at H
             obtain ⟨rfl, rfl, rfl, rfl, rfl, rfl, rfl, rfl, rfl⟩ := H
             try go_wp2
             have n0_ := Aside0.mk (kD BK273.out)
             have n1_ := Aside0.mk (kD BK274.out)
             have n2_ := Aside0.mk (kD BK275.out)
             have n3_ := Aside0.mk (kD BK283.out)
             have n4_ := Aside0.mk (kE HB.out)
             clear BK273
             clear BK274
             clear BK275
             clear BK283
             clear HB
             have BK273 := n0_
             have BK274 := n1_
             have BK275 := n2_
             have BK283 := n3_
             have HB := n4_
             clear n0_ n1_ n2_ n3_ n4_
             refine start_ (n := 14) (S := fun w' => w'.cell? ⟨gb274, 0, none⟩ = some (.int .u8 a2_0) ∧ w'.cell? ⟨gb274, 1, none⟩ = some (.int .i64 a2_1) ∧ w'.cell? ⟨gb274, 2, none⟩ = some (.int .i64 a2_2) ∧ w'.cell? ⟨gb274, 3, none⟩ = some (.int .i64 a2_3) ∧ w'.cell? ⟨gb274, 4, none⟩ = some (.int .i64 a2_4) ∧ w'.cell? ⟨gb274, 5, none⟩ = some (.int .u8 a2_5)) (ds := []) #[F,F,F,F,F,F,F,F,F,F,F,F,F,F] (by kernel_rfl) rfl rfl ⟨(kC BK274.out 0).trans rfl, (kC BK274.out 1).trans rfl, (kC BK274.out 2).trans rfl, (kC BK274.out 3).trans rfl, (kC BK274.out 4).trans rfl, (kC BK274.out 5).trans rfl⟩ (fun hHeld => ?_); refine with_tabW paybookref12_Hear.tab17 paybookref12_Hear.bits17 (fun HT_ HW_ => ?_)
             generalize wc.drew = w139 at BK273 BK274 BK275 BK283 HB hHeld ⊢
             refine pure_ (i := 0) (N := some 62) (v := ?_) (a' := ?_) #[T,F,F,F,F,F,F,F,F,F,F,F,F,F] rfl rfl (any_of HT_.out (by kernel_rfl)) (fun _ _ _ h => h) (Or.inl ⟨by rfl, ?_⟩) ?_ ?_
             rotate_left
             ·intro w'
              go_simp
              with_reducible rfl
             rotate_left
             ·simp only [Act.put, List.setIfInBounds_toArray, List.set_cons_zero, List.set_cons_succ, i64_w, i32_w]
              rfl
             refine take_ (i := 1) (N := some 63) (v := ?_) (a' := ?_) #[T,T,F,F,F,F,F,F,F,F,F,F,F,F] rfl rfl (take_ofW HT_.out HW_.out (by kernel_rfl)) (fun _ _ _ h => h) (Or.inl ⟨by rfl, ?_⟩) hHeld ?_ ?_
             rotate_left
             ·rintro w' ⟨s0, s1, s2, s3, s4, s5⟩
              go_simp
              with_reducible rfl
             rotate_left
             ·simp only [Act.put, List.setIfInBounds_toArray, List.set_cons_zero, List.set_cons_succ, i64_w, i32_w]
              rfl
             refine pure_ (i := 2) (N := some 64) (v := ?_) (a' := ?_) #[T,T,T,F,F,F,F,F,F,F,F,F,F,F] rfl rfl (any_of HT_.out (by kernel_rfl)) (fun _ _ _ h => h) (Or.inl ⟨by rfl, ?_⟩) ?_ ?_
             rotate_left
             ·intro w'
              go_simp
              with_reducible rfl
             rotate_left
             ·simp only [Act.put, List.setIfInBounds_toArray, List.set_cons_zero, List.set_cons_succ, i64_w, i32_w]
              rfl
             refine pure_ (i := 3) (N := some 65) (v := ?_) (a' := ?_) #[T,T,T,T,F,F,F,F,F,F,F,F,F,F] rfl rfl (any_of HT_.out (by kernel_rfl)) (fun _ _ _ h => h) (Or.inl ⟨by rfl, ?_⟩) ?_ ?_
             rotate_left
             ·intro w'
              go_simp
              with_reducible rfl
             rotate_left
             ·simp only [Act.put, List.setIfInBounds_toArray, List.set_cons_zero, List.set_cons_succ, i64_w, i32_w]
              rfl
             refine pure_ (i := 4) (N := some 66) (v := undef) (a' := ?_) #[T,T,T,T,T,F,F,F,F,F,F,F,F,F] rfl rfl (any_of HT_.out (by kernel_rfl)) (fun _ _ _ h => h) (Or.inr ⟨by rfl, rfl⟩) ?_ ?_
             rotate_left
             ·simp only [Act.put, List.setIfInBounds_toArray, List.set_cons_zero, List.set_cons_succ, i64_w, i32_w]
              rfl
             refine pure_ (i := 5) (N := some 67) (v := undef) (a' := ?_) #[T,T,T,T,T,T,F,F,F,F,F,F,F,F] rfl rfl (any_of HT_.out (by kernel_rfl)) (fun _ _ _ h => h) (Or.inr ⟨by rfl, rfl⟩) ?_ ?_
             rotate_left
             ·simp only [Act.put, List.setIfInBounds_toArray, List.set_cons_zero, List.set_cons_succ, i64_w, i32_w]
              rfl
             refine pure_ (i := 6) (N := some 68) (v := ?_) (a' := ?_) #[T,T,T,T,T,T,T,F,F,F,F,F,F,F] rfl rfl (any_of HT_.out (by kernel_rfl)) (fun _ _ _ h => h) (Or.inl ⟨by rfl, ?_⟩) ?_ ?_
             rotate_left
             ·intro w'
              go_simp
              with_reducible rfl
             rotate_left
             ·simp only [Act.put, List.setIfInBounds_toArray, List.set_cons_zero, List.set_cons_succ, i64_w, i32_w]
              rfl
             refine pure_ (i := 7) (N := some 69) (v := ?_) (a' := ?_) #[T,T,T,T,T,T,T,T,F,F,F,F,F,F] rfl rfl (any_of HT_.out (by kernel_rfl)) (fun _ _ _ h => h) (Or.inl ⟨by rfl, ?_⟩) ?_ ?_
             rotate_left
             ·intro w'
              go_simp
              with_reducible rfl
             rotate_left
             ·simp only [Act.put, List.setIfInBounds_toArray, List.set_cons_zero, List.set_cons_succ, i64_w, i32_w]
              rfl
             refine pure_ (i := 8) (N := some 70) (v := undef) (a' := ?_) #[T,T,T,T,T,T,T,T,T,F,F,F,F,F] rfl rfl (any_of HT_.out (by kernel_rfl)) (fun _ _ _ h => h) (Or.inr ⟨by rfl, rfl⟩) ?_ ?_
             rotate_left
             ·simp only [Act.put, List.setIfInBounds_toArray, List.set_cons_zero, List.set_cons_succ, i64_w, i32_w]
              rfl
             refine pure_ (i := 9) (N := some 71) (v := undef) (a' := ?_) #[T,T,T,T,T,T,T,T,T,T,F,F,F,F] rfl rfl (any_of HT_.out (by kernel_rfl)) (fun _ _ _ h => h) (Or.inr ⟨by rfl, rfl⟩) ?_ ?_
             rotate_left
             ·simp only [Act.put, List.setIfInBounds_toArray, List.set_cons_zero, List.set_cons_succ, i64_w, i32_w]
              rfl
             refine pure_ (i := 10) (N := some 72) (v := undef) (a' := ?_) #[T,T,T,T,T,T,T,T,T,T,T,F,F,F] rfl rfl (any_of HT_.out (by kernel_rfl)) (fun _ _ _ h => h) (Or.inr ⟨by rfl, rfl⟩) ?_ ?_
             rotate_left
             ·simp only [Act.put, List.setIfInBounds_toArray, List.set_cons_zero, List.set_cons_succ, i64_w, i32_w]
              rfl
             refine pure_ (i := 11) (N := some 73) (v := undef) (a' := ?_) #[T,T,T,T,T,T,T,T,T,T,T,T,F,F] rfl rfl (any_of HT_.out (by kernel_rfl)) (fun _ _ _ h => h) (Or.inr ⟨by rfl, rfl⟩) ?_ ?_
             rotate_left
             ·simp only [Act.put, List.setIfInBounds_toArray, List.set_cons_zero, List.set_cons_succ, i64_w, i32_w]
              rfl
             refine pure_ (i := 12) (N := some 74) (v := undef) (a' := ?_) #[T,T,T,T,T,T,T,T,T,T,T,T,T,F] rfl rfl (any_of HT_.out (by kernel_rfl)) (fun _ _ _ h => h) (Or.inr ⟨by rfl, rfl⟩) ?_ ?_
             rotate_left
             ·simp only [Act.put, List.setIfInBounds_toArray, List.set_cons_zero, List.set_cons_succ, i64_w, i32_w]
              rfl
             refine pure_ (i := 13) (N := some 75) (v := ?_) (a' := ?_) #[T,T,T,T,T,T,T,T,T,T,T,T,T,T] rfl rfl (any_of HT_.out (by kernel_rfl)) (fun _ _ _ h => h) (Or.inl ⟨by rfl, ?_⟩) ?_ ?_
             rotate_left
             ·intro w'
              go_simp
              with_reducible rfl
             rotate_left
             ·simp only [Act.put, List.setIfInBounds_toArray, List.set_cons_zero, List.set_cons_succ, i64_w, i32_w]
              rfl
             refine done_ (done_of HT_.out (by kernel_rfl)) ?_
             have hnb140 := NB273_274.out
             have hnc140 := NB274_273.out
             have hnb141 := NB273_275.out
             have hnc141 := NB275_273.out
             have hnb142 := NB273_283.out
             have hnc142 := NB283_273.out
             obtain ⟨hcz143_0, hcz143_1, hcz143_2, hcz143_3, hcz143_4, hcz143_5, hcz143_6, hcz143_7, hfz143_0, hfz143_1, hfz143_2, hfz143_3, hfz143_4, hfz143_5, hfz143_6, hfz143_7⟩ := bxc8 BK273.out
             have hnb144 := NB275_274.out
             have hnc144 := NB274_275.out
             have hnb145 := NB275_283.out
             have hnc145 := NB283_275.out
             obtain ⟨hcz146_0, hcz146_1, hcz146_2, hcz146_3, hcz146_4, hcz146_5, hcz146_6, hcz146_7, hfz146_0, hfz146_1, hfz146_2, hfz146_3, hfz146_4, hfz146_5, hfz146_6, hfz146_7⟩ := bxc8 BK275.out
             try go_wp2_with (first | ((with_reducible refine gate_store (t := 32) (p := 10) rfl ?_); refine rec_event (t := 32) (p := 10) (v := ?vo_w147) (g := gb275) (t' := 32) #[.int .i64 0, .int .i64 0, .int .u8 0, .int .i64 0, .int .i64 0, .int .i64 0, .int .i64 0, .bool false] #[.int .i64 a1_0, .int .i64 a1_1, .int .u8 8, .int .i64 a1_3, .int .i64 a1_4, .int .i64 a1_5, .int .i64 a1_6, .bool a1_7] ?hg ?ho ?hn ?hx ?hy ?hb (by rfl) (by kernel_rfl) (by kernel_rfl) ?_; (case ho => rfl); (case hg => rfl); (case hn => rfl); (case hx => rfl); (case hy => rfl); (case hb => exact BK275.out); intro w147 hblk hoth hbel; have n0_ : Aside0 (w147.heap[gb273]? = some (.cells #[.int .i64 a1_0, .int .i64 a1_1, .int .u8 8, .int .i64 a1_3, .int .i64 a1_4, .int .i64 a1_5, .int .i64 a1_6, .bool a1_7] 32 (0, 0))) := ⟨(hoth gb273 NB273_275.out).trans (by (with_reducible repeat (first | refine kN ?_ _ | refine kD ?_ | refine kA ?_ _)); exact BK273.out)⟩; have n1_ : Aside0 (w147.heap[gb274]? = some (.cells #[.int .u8 a2_0, .int .i64 a2_1, .int .i64 a2_2, .int .i64 a2_3, .int .i64 a2_4, .int .u8 a2_5] 28 (0, 0))) := ⟨(hoth gb274 NB274_275.out).trans (by (with_reducible repeat (first | refine kN ?_ _ | refine kD ?_ | refine kA ?_ _)); exact BK274.out)⟩; have n2_ : Aside0 (w147.heap[gb275]? = some (.cells #[.int .i64 a1_0, .int .i64 a1_1, .int .u8 8, .int .i64 a1_3, .int .i64 a1_4, .int .i64 a1_5, .int .i64 a1_6, .bool a1_7] 32 (0, 0))) := ⟨hblk⟩; have n3_ : Aside0 (w147.heap[gb283]? = some (.cells #[.int .u8 t276, .int .i64 t277, .int .i64 t278, .int .i64 t279, .int .i64 t280, .int .u8 a2_5] 28 (0, 0))) := ⟨(hoth gb283 NB283_275.out).trans (by (with_reducible repeat (first | refine kN ?_ _ | refine kD ?_ | refine kA ?_ _)); exact BK283.out)⟩; have n4_ : Aside0 (Below w.heap.size w w147) := ⟨Below.trans (by repeat (first | (with_reducible first | exact HB.out | apply kL | apply kM | apply kE | refine kS ?_ GE273.out | refine kS ?_ GE274.out | refine kS ?_ GE275.out | refine kS ?_ GE283.out) | exact HB.out)) (hbel _ GE275.out)⟩; clear hblk hoth hbel; clear BK273; clear BK274; clear BK275; clear BK283; clear HB; have BK273 := n0_; have BK274 := n1_; have BK275 := n2_; have BK283 := n3_; have HB := n4_; clear n0_ n1_ n2_ n3_ n4_))
             refine bodyPost_ret (results_ct rfl _ _ gb275 32 #[.int .i64 a1_0, .int .i64 a1_1, .int .u8 8, .int .i64 a1_3, .int .i64 a1_4, .int .i64 a1_5, .int .i64 a1_6, .bool a1_7] (0, 0) _ rfl (by (with_reducible repeat (first | refine kN ?_ _ | refine kD ?_ | refine kA ?_ _)); exact BK275.out) Tryd.underlying32 rfl (by kernel_rfl)) rfl ?_
             exact ⟨by first | rfl | (simp [errW_none, errW_some] <;> rfl) | (simp [*, errW_none, errW_some] <;> rfl), by repeat (first | (with_reducible first | exact HB.out | apply kL | apply kM | apply kE | refine kS ?_ GE273.out | refine kS ?_ GE274.out | refine kS ?_ GE275.out | refine kS ?_ GE283.out) | exact HB.out)⟩
    ·rw [if_neg c46] at H
     have c46b0 : (a1_2 == 1) = false := beq_eq_false_iff_ne.mpr c46
     have c46b1 : (a1_2 != 1) = true := bne_iff_ne.mpr c46
     by_cases c148 : a1_2 = 3
     ·rw [if_pos c148] at H
      have c148b0 : (a1_2 == 3) = true := beq_iff_eq.mpr c148
      have c148b1 : (a1_2 != 3) = false := bne_eq_false_iff_eq.mpr c148
      clear c148
      by_cases c149 : a2_5 = 1
      ·rw [if_pos c149] at H
       have c149b0 : (a2_5 == 1) = true := beq_iff_eq.mpr c149
       have c149b1 : (a2_5 != 1) = false := bne_eq_false_iff_eq.mpr c149
       clear c149
       by_cases c150 : a4 = true
       ·subst c150
        have H1 : (some (a1_0, a1_1, 5, a1_3, a1_4, a1_5, a1_6, a1_7, true)) = some (r1, r2, r3, r4, r5, r6, r7, r8, r9) := by rw [if_pos rfl] at H; try exact H
        clear H
        have H := H1
        clear H1
        simp only [Option.some.injEq, Prod.mk.injEq] at H
        obtain ⟨rfl, rfl, rfl, rfl, rfl, rfl, rfl, rfl, rfl⟩ := H
        have hnb151 := NB274_273.out
        have hnc151 := NB273_274.out
        have hnb152 := NB274_275.out
        have hnc152 := NB275_274.out
        have hnb153 := NB274_283.out
        have hnc153 := NB283_274.out
        obtain ⟨hcz154_0, hcz154_1, hcz154_2, hcz154_3, hcz154_4, hcz154_5, hfz154_0, hfz154_1, hfz154_2, hfz154_3, hfz154_4, hfz154_5⟩ := bxc6 BK274.out
        have hnb155 := NB273_275.out
        have hnc155 := NB275_273.out
        have hnb156 := NB273_283.out
        have hnc156 := NB283_273.out
        obtain ⟨hcz157_0, hcz157_1, hcz157_2, hcz157_3, hcz157_4, hcz157_5, hcz157_6, hcz157_7, hfz157_0, hfz157_1, hfz157_2, hfz157_3, hfz157_4, hfz157_5, hfz157_6, hfz157_7⟩ := bxc8 BK273.out
        have hnb158 := NB275_283.out
        have hnc158 := NB283_275.out
        obtain ⟨hcz159_0, hcz159_1, hcz159_2, hcz159_3, hcz159_4, hcz159_5, hcz159_6, hcz159_7, hfz159_0, hfz159_1, hfz159_2, hfz159_3, hfz159_4, hfz159_5, hfz159_6, hfz159_7⟩ := bxc8 BK275.out
        go_wp2_with (first | ((with_reducible refine gate_store (t := 32) (p := 10) rfl ?_); refine rec_event (t := 32) (p := 10) (v := ?vo_w160) (g := gb275) (t' := 32) #[.int .i64 0, .int .i64 0, .int .u8 0, .int .i64 0, .int .i64 0, .int .i64 0, .int .i64 0, .bool false] #[.int .i64 a1_0, .int .i64 a1_1, .int .u8 5, .int .i64 a1_3, .int .i64 a1_4, .int .i64 a1_5, .int .i64 a1_6, .bool a1_7] ?hg ?ho ?hn ?hx ?hy ?hb (by rfl) (by kernel_rfl) (by kernel_rfl) ?_; (case ho => rfl); (case hg => rfl); (case hn => rfl); (case hx => rfl); (case hy => rfl); (case hb => exact by (with_reducible repeat (first | refine kN ?_ _ | refine kD ?_ | refine kA ?_ _ | refine kR ?_ NB275_273.out _)); (with_reducible repeat (first | refine kN ?_ _ | refine kD ?_ | refine kA ?_ _)); exact BK275.out); intro w160 hblk hoth hbel; have n0_ : Aside0 (w160.heap[gb273]? = some (.cells #[.int .i64 a1_0, .int .i64 a1_1, .int .u8 5, .int .i64 a1_3, .int .i64 a1_4, .int .i64 a1_5, .int .i64 a1_6, .bool a1_7] 32 (0, 0))) := ⟨(hoth gb273 NB273_275.out).trans (by (with_reducible repeat (first | refine kN ?_ _ | refine kD ?_ | refine kA ?_ _)); refine bxp8_2 (o := .int .u8 a1_2) ?_; (with_reducible repeat (first | refine kN ?_ _ | refine kD ?_ | refine kA ?_ _)); exact BK273.out)⟩; have n1_ : Aside0 (w160.heap[gb274]? = some (.cells #[.int .u8 a2_0, .int .i64 a2_1, .int .i64 a2_2, .int .i64 a2_3, .int .i64 a2_4, .int .u8 a2_5] 28 (0, 0))) := ⟨(hoth gb274 NB274_275.out).trans (by (with_reducible repeat (first | refine kN ?_ _ | refine kD ?_ | refine kA ?_ _ | refine kR ?_ NB274_273.out _)); (with_reducible repeat (first | refine kN ?_ _ | refine kD ?_ | refine kA ?_ _)); exact BK274.out)⟩; have n2_ : Aside0 (w160.heap[gb275]? = some (.cells #[.int .i64 a1_0, .int .i64 a1_1, .int .u8 5, .int .i64 a1_3, .int .i64 a1_4, .int .i64 a1_5, .int .i64 a1_6, .bool a1_7] 32 (0, 0))) := ⟨hblk⟩; have n3_ : Aside0 (w160.heap[gb283]? = some (.cells #[.int .u8 t276, .int .i64 t277, .int .i64 t278, .int .i64 t279, .int .i64 t280, .int .u8 a2_5] 28 (0, 0))) := ⟨(hoth gb283 NB283_275.out).trans (by (with_reducible repeat (first | refine kN ?_ _ | refine kD ?_ | refine kA ?_ _ | refine kR ?_ NB283_273.out _)); (with_reducible repeat (first | refine kN ?_ _ | refine kD ?_ | refine kA ?_ _)); exact BK283.out)⟩; have n4_ : Aside0 (Below w.heap.size w w160) := ⟨Below.trans (by repeat (first | (with_reducible first | exact HB.out | apply kL | apply kM | apply kE | refine kS ?_ GE273.out | refine kS ?_ GE274.out | refine kS ?_ GE275.out | refine kS ?_ GE283.out) | exact HB.out)) (hbel _ GE275.out)⟩; clear hblk hoth hbel; clear BK273; clear BK274; clear BK275; clear BK283; clear HB; have BK273 := n0_; have BK274 := n1_; have BK275 := n2_; have BK283 := n3_; have HB := n4_; clear n0_ n1_ n2_ n3_ n4_))
        refine bodyPost_ret (results_ct rfl _ _ gb275 32 #[.int .i64 a1_0, .int .i64 a1_1, .int .u8 5, .int .i64 a1_3, .int .i64 a1_4, .int .i64 a1_5, .int .i64 a1_6, .bool a1_7] (0, 0) _ rfl (by (with_reducible repeat (first | refine kN ?_ _ | refine kD ?_ | refine kA ?_ _)); exact BK275.out) Tryd.underlying32 rfl (by kernel_rfl)) rfl ?_
        exact ⟨by first | rfl | (simp [errW_none, errW_some] <;> rfl) | (simp [*, errW_none, errW_some] <;> rfl), by repeat (first | (with_reducible first | exact HB.out | apply kL | apply kM | apply kE | refine kS ?_ GE273.out | refine kS ?_ GE274.out | refine kS ?_ GE275.out | refine kS ?_ GE283.out) | exact HB.out)⟩
       ·replace c150 := Bool.eq_false_iff.mpr c150
        subst c150
        have H1 : (some (a1_0, a1_1, 4, a1_3, a1_4, a1_5, a1_6, a1_7, true)) = some (r1, r2, r3, r4, r5, r6, r7, r8, r9) := by rw [if_neg (show ¬ (false = true) by decide)] at H; try exact H
        clear H
        have H := H1
        clear H1
        simp only [Option.some.injEq, Prod.mk.injEq] at H
        obtain ⟨rfl, rfl, rfl, rfl, rfl, rfl, rfl, rfl, rfl⟩ := H
        have hnb161 := NB274_273.out
        have hnc161 := NB273_274.out
        have hnb162 := NB274_275.out
        have hnc162 := NB275_274.out
        have hnb163 := NB274_283.out
        have hnc163 := NB283_274.out
        obtain ⟨hcz164_0, hcz164_1, hcz164_2, hcz164_3, hcz164_4, hcz164_5, hfz164_0, hfz164_1, hfz164_2, hfz164_3, hfz164_4, hfz164_5⟩ := bxc6 BK274.out
        have hnb165 := NB273_275.out
        have hnc165 := NB275_273.out
        have hnb166 := NB273_283.out
        have hnc166 := NB283_273.out
        obtain ⟨hcz167_0, hcz167_1, hcz167_2, hcz167_3, hcz167_4, hcz167_5, hcz167_6, hcz167_7, hfz167_0, hfz167_1, hfz167_2, hfz167_3, hfz167_4, hfz167_5, hfz167_6, hfz167_7⟩ := bxc8 BK273.out
        have hnb168 := NB275_283.out
        have hnc168 := NB283_275.out
        obtain ⟨hcz169_0, hcz169_1, hcz169_2, hcz169_3, hcz169_4, hcz169_5, hcz169_6, hcz169_7, hfz169_0, hfz169_1, hfz169_2, hfz169_3, hfz169_4, hfz169_5, hfz169_6, hfz169_7⟩ := bxc8 BK275.out
        go_wp2_with (first | ((with_reducible refine gate_store (t := 32) (p := 10) rfl ?_); refine rec_event (t := 32) (p := 10) (v := ?vo_w170) (g := gb275) (t' := 32) #[.int .i64 0, .int .i64 0, .int .u8 0, .int .i64 0, .int .i64 0, .int .i64 0, .int .i64 0, .bool false] #[.int .i64 a1_0, .int .i64 a1_1, .int .u8 4, .int .i64 a1_3, .int .i64 a1_4, .int .i64 a1_5, .int .i64 a1_6, .bool a1_7] ?hg ?ho ?hn ?hx ?hy ?hb (by rfl) (by kernel_rfl) (by kernel_rfl) ?_; (case ho => rfl); (case hg => rfl); (case hn => rfl); (case hx => rfl); (case hy => rfl); (case hb => exact by (with_reducible repeat (first | refine kN ?_ _ | refine kD ?_ | refine kA ?_ _ | refine kR ?_ NB275_273.out _)); (with_reducible repeat (first | refine kN ?_ _ | refine kD ?_ | refine kA ?_ _)); exact BK275.out); intro w170 hblk hoth hbel; have n0_ : Aside0 (w170.heap[gb273]? = some (.cells #[.int .i64 a1_0, .int .i64 a1_1, .int .u8 4, .int .i64 a1_3, .int .i64 a1_4, .int .i64 a1_5, .int .i64 a1_6, .bool a1_7] 32 (0, 0))) := ⟨(hoth gb273 NB273_275.out).trans (by (with_reducible repeat (first | refine kN ?_ _ | refine kD ?_ | refine kA ?_ _)); refine bxp8_2 (o := .int .u8 a1_2) ?_; (with_reducible repeat (first | refine kN ?_ _ | refine kD ?_ | refine kA ?_ _)); exact BK273.out)⟩; have n1_ : Aside0 (w170.heap[gb274]? = some (.cells #[.int .u8 a2_0, .int .i64 a2_1, .int .i64 a2_2, .int .i64 a2_3, .int .i64 a2_4, .int .u8 a2_5] 28 (0, 0))) := ⟨(hoth gb274 NB274_275.out).trans (by (with_reducible repeat (first | refine kN ?_ _ | refine kD ?_ | refine kA ?_ _ | refine kR ?_ NB274_273.out _)); (with_reducible repeat (first | refine kN ?_ _ | refine kD ?_ | refine kA ?_ _)); exact BK274.out)⟩; have n2_ : Aside0 (w170.heap[gb275]? = some (.cells #[.int .i64 a1_0, .int .i64 a1_1, .int .u8 4, .int .i64 a1_3, .int .i64 a1_4, .int .i64 a1_5, .int .i64 a1_6, .bool a1_7] 32 (0, 0))) := ⟨hblk⟩; have n3_ : Aside0 (w170.heap[gb283]? = some (.cells #[.int .u8 t276, .int .i64 t277, .int .i64 t278, .int .i64 t279, .int .i64 t280, .int .u8 a2_5] 28 (0, 0))) := ⟨(hoth gb283 NB283_275.out).trans (by (with_reducible repeat (first | refine kN ?_ _ | refine kD ?_ | refine kA ?_ _ | refine kR ?_ NB283_273.out _)); (with_reducible repeat (first | refine kN ?_ _ | refine kD ?_ | refine kA ?_ _)); exact BK283.out)⟩; have n4_ : Aside0 (Below w.heap.size w w170) := ⟨Below.trans (by repeat (first | (with_reducible first | exact HB.out | apply kL | apply kM | apply kE | refine kS ?_ GE273.out | refine kS ?_ GE274.out | refine kS ?_ GE275.out | refine kS ?_ GE283.out) | exact HB.out)) (hbel _ GE275.out)⟩; clear hblk hoth hbel; clear BK273; clear BK274; clear BK275; clear BK283; clear HB; have BK273 := n0_; have BK274 := n1_; have BK275 := n2_; have BK283 := n3_; have HB := n4_; clear n0_ n1_ n2_ n3_ n4_))
        refine bodyPost_ret (results_ct rfl _ _ gb275 32 #[.int .i64 a1_0, .int .i64 a1_1, .int .u8 4, .int .i64 a1_3, .int .i64 a1_4, .int .i64 a1_5, .int .i64 a1_6, .bool a1_7] (0, 0) _ rfl (by (with_reducible repeat (first | refine kN ?_ _ | refine kD ?_ | refine kA ?_ _)); exact BK275.out) Tryd.underlying32 rfl (by kernel_rfl)) rfl ?_
        exact ⟨by first | rfl | (simp [errW_none, errW_some] <;> rfl) | (simp [*, errW_none, errW_some] <;> rfl), by repeat (first | (with_reducible first | exact HB.out | apply kL | apply kM | apply kE | refine kS ?_ GE273.out | refine kS ?_ GE274.out | refine kS ?_ GE275.out | refine kS ?_ GE283.out) | exact HB.out)⟩
      ·rw [if_neg c149] at H
       have c149b0 : (a2_5 == 1) = false := beq_eq_false_iff_ne.mpr c149
       have c149b1 : (a2_5 != 1) = true := bne_iff_ne.mpr c149
       replace H := Option.bind_eq_some_iff.mp H
       obtain ⟨⟨t299, t300, t301, t302, t303, t304, t305, t306⟩, A1710, H⟩ := H
       replace H : (some (t299, t300, t301, t302, t303, t304, t305, t306, true)) = some (r1, r2, r3, r4, r5, r6, r7, r8, r9) := H
       have A171 := Aside0.mk A1710
       clear A1710
       simp only [Option.some.injEq, Prod.mk.injEq] at H
       obtain ⟨rfl, rfl, rfl, rfl, rfl, rfl, rfl, rfl, rfl⟩ := H
       have hnb172 := NB274_273.out
       have hnc172 := NB273_274.out
       have hnb173 := NB274_275.out
       have hnc173 := NB275_274.out
       have hnb174 := NB274_283.out
       have hnc174 := NB283_274.out
       obtain ⟨hcz175_0, hcz175_1, hcz175_2, hcz175_3, hcz175_4, hcz175_5, hfz175_0, hfz175_1, hfz175_2, hfz175_3, hfz175_4, hfz175_5⟩ := bxc6 BK274.out
       have hnb176 := NB273_275.out
       have hnc176 := NB275_273.out
       have hnb177 := NB273_283.out
       have hnc177 := NB283_273.out
       obtain ⟨hcz178_0, hcz178_1, hcz178_2, hcz178_3, hcz178_4, hcz178_5, hcz178_6, hcz178_7, hfz178_0, hfz178_1, hfz178_2, hfz178_3, hfz178_4, hfz178_5, hfz178_6, hfz178_7⟩ := bxc8 BK273.out
       go_wp2_with (first | ((with_reducible refine gate_callee (f := 32) rfl ?_); refine goesL_ (some 91) rfl rfl Tryd.func32 (by kernel_rfl) rfl #[.agg #[.int .i64 a1_0, .int .i64 a1_1, .int .u8 a1_2, .int .i64 a1_3, .int .i64 a1_4, .int .i64 a1_5, .int .i64 a1_6, .bool a1_7]] rfl (by (try simp only [List.map_toArray, List.map_cons, List.map_nil]); first | done | rfl | (simp only [List.length_drop, List.length_take]; rfl)) ?_; (with_reducible refine (paybookref12_back.calls a1_0 a1_1 a1_2 a1_3 a1_4 a1_5 a1_6 a1_7 t299 t300 t301 t302 t303 t304 t305 t306 _ A171.out).mono ?_); rintro e w179 ⟨rfl, hb⟩; refine ⟨_, rfl, ?_⟩; have n0_ := Aside0.mk (blk_below (g := gb273) (o := .cells #[.int .i64 a1_0, .int .i64 a1_1, .int .u8 a1_2, .int .i64 a1_3, .int .i64 a1_4, .int .i64 a1_5, .int .i64 a1_6, .bool a1_7] 32 (0, 0)) (by (with_reducible repeat (first | refine kN ?_ _ | refine kD ?_ | refine kA ?_ _)); exact BK273.out) hb); have n1_ := Aside0.mk (blk_below (g := gb274) (o := .cells #[.int .u8 a2_0, .int .i64 a2_1, .int .i64 a2_2, .int .i64 a2_3, .int .i64 a2_4, .int .u8 a2_5] 28 (0, 0)) (by (with_reducible repeat (first | refine kN ?_ _ | refine kD ?_ | refine kA ?_ _)); exact BK274.out) hb); have n2_ := Aside0.mk (blk_below (g := gb275) (o := .cells #[.int .i64 0, .int .i64 0, .int .u8 0, .int .i64 0, .int .i64 0, .int .i64 0, .int .i64 0, .bool false] 32 (0, 0)) (by (with_reducible repeat (first | refine kN ?_ _ | refine kD ?_ | refine kA ?_ _)); exact BK275.out) hb); have n3_ := Aside0.mk (blk_below (g := gb283) (o := .cells #[.int .u8 t276, .int .i64 t277, .int .i64 t278, .int .i64 t279, .int .i64 t280, .int .u8 a2_5] 28 (0, 0)) (by (with_reducible repeat (first | refine kN ?_ _ | refine kD ?_ | refine kA ?_ _)); exact BK283.out) hb); have n4_ := Aside0.mk (below_step (by repeat (first | (with_reducible first | exact HB.out | apply kL | apply kM | apply kE | refine kS ?_ GE273.out | refine kS ?_ GE274.out | refine kS ?_ GE275.out | refine kS ?_ GE283.out) | exact HB.out)) hb); clear BK273; clear BK274; clear BK275; clear BK283; clear HB; have BK273 := n0_; have BK274 := n1_; have BK275 := n2_; have BK283 := n3_; have HB := n4_; clear n0_ n1_ n2_ n3_ n4_; (try clear hb); (try clear hb2); (try clear hk); (try clear hi); obtain ⟨hcz180_0, hcz180_1, hcz180_2, hcz180_3, hcz180_4, hcz180_5, hcz180_6, hcz180_7, hfz180_0, hfz180_1, hfz180_2, hfz180_3, hfz180_4, hfz180_5, hfz180_6, hfz180_7⟩ := bxc8 BK273.out) | ((with_reducible refine gate_store (t := 32) (p := 6) rfl ?_); refine rec_event (t := 32) (p := 6) (v := ?vo_w181) (g := gb273) (t' := 32) #[.int .i64 a1_0, .int .i64 a1_1, .int .u8 a1_2, .int .i64 a1_3, .int .i64 a1_4, .int .i64 a1_5, .int .i64 a1_6, .bool a1_7] #[.int .i64 t299, .int .i64 t300, .int .u8 t301, .int .i64 t302, .int .i64 t303, .int .i64 t304, .int .i64 t305, .bool t306] ?hg ?ho ?hn ?hx ?hy ?hb (by rfl) (by kernel_rfl) (by kernel_rfl) ?_; (case ho => rfl); (case hg => rfl); (case hn => rfl); (case hx => rfl); (case hy => rfl); (case hb => exact BK273.out); intro w181 hblk hoth hbel; have n0_ : Aside0 (w181.heap[gb273]? = some (.cells #[.int .i64 t299, .int .i64 t300, .int .u8 t301, .int .i64 t302, .int .i64 t303, .int .i64 t304, .int .i64 t305, .bool t306] 32 (0, 0))) := ⟨hblk⟩; have n1_ : Aside0 (w181.heap[gb274]? = some (.cells #[.int .u8 a2_0, .int .i64 a2_1, .int .i64 a2_2, .int .i64 a2_3, .int .i64 a2_4, .int .u8 a2_5] 28 (0, 0))) := ⟨(hoth gb274 NB274_273.out).trans (by (with_reducible repeat (first | refine kN ?_ _ | refine kD ?_ | refine kA ?_ _)); exact BK274.out)⟩; have n2_ : Aside0 (w181.heap[gb275]? = some (.cells #[.int .i64 0, .int .i64 0, .int .u8 0, .int .i64 0, .int .i64 0, .int .i64 0, .int .i64 0, .bool false] 32 (0, 0))) := ⟨(hoth gb275 NB275_273.out).trans (by (with_reducible repeat (first | refine kN ?_ _ | refine kD ?_ | refine kA ?_ _)); exact BK275.out)⟩; have n3_ : Aside0 (w181.heap[gb283]? = some (.cells #[.int .u8 t276, .int .i64 t277, .int .i64 t278, .int .i64 t279, .int .i64 t280, .int .u8 a2_5] 28 (0, 0))) := ⟨(hoth gb283 NB283_273.out).trans (by (with_reducible repeat (first | refine kN ?_ _ | refine kD ?_ | refine kA ?_ _)); exact BK283.out)⟩; have n4_ : Aside0 (Below w.heap.size w w181) := ⟨Below.trans (by repeat (first | (with_reducible first | exact HB.out | apply kL | apply kM | apply kE | refine kS ?_ GE273.out | refine kS ?_ GE274.out | refine kS ?_ GE275.out | refine kS ?_ GE283.out) | exact HB.out)) (hbel _ GE273.out)⟩; clear hblk hoth hbel; clear BK273; clear BK274; clear BK275; clear BK283; clear HB; have BK273 := n0_; have BK274 := n1_; have BK275 := n2_; have BK283 := n3_; have HB := n4_; clear n0_ n1_ n2_ n3_ n4_; obtain ⟨hcz182_0, hcz182_1, hcz182_2, hcz182_3, hcz182_4, hcz182_5, hcz182_6, hcz182_7, hfz182_0, hfz182_1, hfz182_2, hfz182_3, hfz182_4, hfz182_5, hfz182_6, hfz182_7⟩ := bxc8 BK273.out; have hnb183 := NB275_283.out; have hnc183 := NB283_275.out; obtain ⟨hcz184_0, hcz184_1, hcz184_2, hcz184_3, hcz184_4, hcz184_5, hcz184_6, hcz184_7, hfz184_0, hfz184_1, hfz184_2, hfz184_3, hfz184_4, hfz184_5, hfz184_6, hfz184_7⟩ := bxc8 BK275.out) | ((with_reducible refine gate_store (t := 32) (p := 10) rfl ?_); refine rec_event (t := 32) (p := 10) (v := ?vo_w185) (g := gb275) (t' := 32) #[.int .i64 0, .int .i64 0, .int .u8 0, .int .i64 0, .int .i64 0, .int .i64 0, .int .i64 0, .bool false] #[.int .i64 t299, .int .i64 t300, .int .u8 t301, .int .i64 t302, .int .i64 t303, .int .i64 t304, .int .i64 t305, .bool t306] ?hg ?ho ?hn ?hx ?hy ?hb (by rfl) (by kernel_rfl) (by kernel_rfl) ?_; (case ho => rfl); (case hg => rfl); (case hn => rfl); (case hx => rfl); (case hy => rfl); (case hb => exact BK275.out); intro w185 hblk hoth hbel; have n0_ : Aside0 (w185.heap[gb273]? = some (.cells #[.int .i64 t299, .int .i64 t300, .int .u8 t301, .int .i64 t302, .int .i64 t303, .int .i64 t304, .int .i64 t305, .bool t306] 32 (0, 0))) := ⟨(hoth gb273 NB273_275.out).trans (by (with_reducible repeat (first | refine kN ?_ _ | refine kD ?_ | refine kA ?_ _)); exact BK273.out)⟩; have n1_ : Aside0 (w185.heap[gb274]? = some (.cells #[.int .u8 a2_0, .int .i64 a2_1, .int .i64 a2_2, .int .i64 a2_3, .int .i64 a2_4, .int .u8 a2_5] 28 (0, 0))) := ⟨(hoth gb274 NB274_275.out).trans (by (with_reducible repeat (first | refine kN ?_ _ | refine kD ?_ | refine kA ?_ _)); exact BK274.out)⟩; have n2_ : Aside0 (w185.heap[gb275]? = some (.cells #[.int .i64 t299, .int .i64 t300, .int .u8 t301, .int .i64 t302, .int .i64 t303, .int .i64 t304, .int .i64 t305, .bool t306] 32 (0, 0))) := ⟨hblk⟩; have n3_ : Aside0 (w185.heap[gb283]? = some (.cells #[.int .u8 t276, .int .i64 t277, .int .i64 t278, .int .i64 t279, .int .i64 t280, .int .u8 a2_5] 28 (0, 0))) := ⟨(hoth gb283 NB283_275.out).trans (by (with_reducible repeat (first | refine kN ?_ _ | refine kD ?_ | refine kA ?_ _)); exact BK283.out)⟩; have n4_ : Aside0 (Below w.heap.size w w185) := ⟨Below.trans (by repeat (first | (with_reducible first | exact HB.out | apply kL | apply kM | apply kE | refine kS ?_ GE273.out | refine kS ?_ GE274.out | refine kS ?_ GE275.out | refine kS ?_ GE283.out) | exact HB.out)) (hbel _ GE275.out)⟩; clear hblk hoth hbel; clear BK273; clear BK274; clear BK275; clear BK283; clear HB; have BK273 := n0_; have BK274 := n1_; have BK275 := n2_; have BK283 := n3_; have HB := n4_; clear n0_ n1_ n2_ n3_ n4_))
       refine bodyPost_ret (results_ct rfl _ _ gb275 32 #[.int .i64 t299, .int .i64 t300, .int .u8 t301, .int .i64 t302, .int .i64 t303, .int .i64 t304, .int .i64 t305, .bool t306] (0, 0) _ rfl (by (with_reducible repeat (first | refine kN ?_ _ | refine kD ?_ | refine kA ?_ _)); exact BK275.out) Tryd.underlying32 rfl (by kernel_rfl)) rfl ?_
       exact ⟨by first | rfl | (simp [errW_none, errW_some] <;> rfl) | (simp [*, errW_none, errW_some] <;> rfl), by repeat (first | (with_reducible first | exact HB.out | apply kL | apply kM | apply kE | refine kS ?_ GE273.out | refine kS ?_ GE274.out | refine kS ?_ GE275.out | refine kS ?_ GE283.out) | exact HB.out)⟩
     ·rw [if_neg c148] at H
      have c148b0 : (a1_2 == 3) = false := beq_eq_false_iff_ne.mpr c148
      have c148b1 : (a1_2 != 3) = true := bne_iff_ne.mpr c148
      by_cases c186 : a1_2 = 4
      ·rw [if_pos c186] at H
       have c186b0 : (a1_2 == 4) = true := beq_iff_eq.mpr c186
       have c186b1 : (a1_2 != 4) = false := bne_eq_false_iff_eq.mpr c186
       clear c186
       by_cases c187 : a2_5 = 1
       ·rw [if_pos c187] at H
        have c187b0 : (a2_5 == 1) = true := beq_iff_eq.mpr c187
        have c187b1 : (a2_5 != 1) = false := bne_eq_false_iff_eq.mpr c187
        clear c187
        simp only [Option.some.injEq, Prod.mk.injEq] at H
        obtain ⟨rfl, rfl, rfl, rfl, rfl, rfl, rfl, rfl, rfl⟩ := H
        have hnb188 := NB274_273.out
        have hnc188 := NB273_274.out
        have hnb189 := NB274_275.out
        have hnc189 := NB275_274.out
        have hnb190 := NB274_283.out
        have hnc190 := NB283_274.out
        obtain ⟨hcz191_0, hcz191_1, hcz191_2, hcz191_3, hcz191_4, hcz191_5, hfz191_0, hfz191_1, hfz191_2, hfz191_3, hfz191_4, hfz191_5⟩ := bxc6 BK274.out
        have hnb192 := NB273_275.out
        have hnc192 := NB275_273.out
        have hnb193 := NB273_283.out
        have hnc193 := NB283_273.out
        obtain ⟨hcz194_0, hcz194_1, hcz194_2, hcz194_3, hcz194_4, hcz194_5, hcz194_6, hcz194_7, hfz194_0, hfz194_1, hfz194_2, hfz194_3, hfz194_4, hfz194_5, hfz194_6, hfz194_7⟩ := bxc8 BK273.out
        have hnb195 := NB275_283.out
        have hnc195 := NB283_275.out
        obtain ⟨hcz196_0, hcz196_1, hcz196_2, hcz196_3, hcz196_4, hcz196_5, hcz196_6, hcz196_7, hfz196_0, hfz196_1, hfz196_2, hfz196_3, hfz196_4, hfz196_5, hfz196_6, hfz196_7⟩ := bxc8 BK275.out
        go_wp2_with (first | ((with_reducible refine gate_store (t := 32) (p := 10) rfl ?_); refine rec_event (t := 32) (p := 10) (v := ?vo_w197) (g := gb275) (t' := 32) #[.int .i64 0, .int .i64 0, .int .u8 0, .int .i64 0, .int .i64 0, .int .i64 0, .int .i64 0, .bool false] #[.int .i64 a1_0, .int .i64 a1_1, .int .u8 7, .int .i64 a1_3, .int .i64 a1_4, .int .i64 a1_5, .int .i64 a1_6, .bool a1_7] ?hg ?ho ?hn ?hx ?hy ?hb (by rfl) (by kernel_rfl) (by kernel_rfl) ?_; (case ho => rfl); (case hg => rfl); (case hn => rfl); (case hx => rfl); (case hy => rfl); (case hb => exact by (with_reducible repeat (first | refine kN ?_ _ | refine kD ?_ | refine kA ?_ _ | refine kR ?_ NB275_273.out _)); (with_reducible repeat (first | refine kN ?_ _ | refine kD ?_ | refine kA ?_ _)); exact BK275.out); intro w197 hblk hoth hbel; have n0_ : Aside0 (w197.heap[gb273]? = some (.cells #[.int .i64 a1_0, .int .i64 a1_1, .int .u8 7, .int .i64 a1_3, .int .i64 a1_4, .int .i64 a1_5, .int .i64 a1_6, .bool a1_7] 32 (0, 0))) := ⟨(hoth gb273 NB273_275.out).trans (by (with_reducible repeat (first | refine kN ?_ _ | refine kD ?_ | refine kA ?_ _)); refine bxp8_2 (o := .int .u8 5) ?_; (with_reducible repeat (first | refine kN ?_ _ | refine kD ?_ | refine kA ?_ _)); refine bxp8_2 (o := .int .u8 a1_2) ?_; (with_reducible repeat (first | refine kN ?_ _ | refine kD ?_ | refine kA ?_ _)); exact BK273.out)⟩; have n1_ : Aside0 (w197.heap[gb274]? = some (.cells #[.int .u8 a2_0, .int .i64 a2_1, .int .i64 a2_2, .int .i64 a2_3, .int .i64 a2_4, .int .u8 a2_5] 28 (0, 0))) := ⟨(hoth gb274 NB274_275.out).trans (by (with_reducible repeat (first | refine kN ?_ _ | refine kD ?_ | refine kA ?_ _ | refine kR ?_ NB274_273.out _)); (with_reducible repeat (first | refine kN ?_ _ | refine kD ?_ | refine kA ?_ _)); exact BK274.out)⟩; have n2_ : Aside0 (w197.heap[gb275]? = some (.cells #[.int .i64 a1_0, .int .i64 a1_1, .int .u8 7, .int .i64 a1_3, .int .i64 a1_4, .int .i64 a1_5, .int .i64 a1_6, .bool a1_7] 32 (0, 0))) := ⟨hblk⟩; have n3_ : Aside0 (w197.heap[gb283]? = some (.cells #[.int .u8 t276, .int .i64 t277, .int .i64 t278, .int .i64 t279, .int .i64 t280, .int .u8 a2_5] 28 (0, 0))) := ⟨(hoth gb283 NB283_275.out).trans (by (with_reducible repeat (first | refine kN ?_ _ | refine kD ?_ | refine kA ?_ _ | refine kR ?_ NB283_273.out _)); (with_reducible repeat (first | refine kN ?_ _ | refine kD ?_ | refine kA ?_ _)); exact BK283.out)⟩; have n4_ : Aside0 (Below w.heap.size w w197) := ⟨Below.trans (by repeat (first | (with_reducible first | exact HB.out | apply kL | apply kM | apply kE | refine kS ?_ GE273.out | refine kS ?_ GE274.out | refine kS ?_ GE275.out | refine kS ?_ GE283.out) | exact HB.out)) (hbel _ GE275.out)⟩; clear hblk hoth hbel; clear BK273; clear BK274; clear BK275; clear BK283; clear HB; have BK273 := n0_; have BK274 := n1_; have BK275 := n2_; have BK283 := n3_; have HB := n4_; clear n0_ n1_ n2_ n3_ n4_))
        refine bodyPost_ret (results_ct rfl _ _ gb275 32 #[.int .i64 a1_0, .int .i64 a1_1, .int .u8 7, .int .i64 a1_3, .int .i64 a1_4, .int .i64 a1_5, .int .i64 a1_6, .bool a1_7] (0, 0) _ rfl (by (with_reducible repeat (first | refine kN ?_ _ | refine kD ?_ | refine kA ?_ _)); exact BK275.out) Tryd.underlying32 rfl (by kernel_rfl)) rfl ?_
        exact ⟨by first | rfl | (simp [errW_none, errW_some] <;> rfl) | (simp [*, errW_none, errW_some] <;> rfl), by repeat (first | (with_reducible first | exact HB.out | apply kL | apply kM | apply kE | refine kS ?_ GE273.out | refine kS ?_ GE274.out | refine kS ?_ GE275.out | refine kS ?_ GE283.out) | exact HB.out)⟩
       ·rw [if_neg c187] at H
        have c187b0 : (a2_5 == 1) = false := beq_eq_false_iff_ne.mpr c187
        have c187b1 : (a2_5 != 1) = true := bne_iff_ne.mpr c187
        simp only [Option.some.injEq, Prod.mk.injEq] at H
        obtain ⟨rfl, rfl, rfl, rfl, rfl, rfl, rfl, rfl, rfl⟩ := H
        have hnb198 := NB274_273.out
        have hnc198 := NB273_274.out
        have hnb199 := NB274_275.out
        have hnc199 := NB275_274.out
        have hnb200 := NB274_283.out
        have hnc200 := NB283_274.out
        obtain ⟨hcz201_0, hcz201_1, hcz201_2, hcz201_3, hcz201_4, hcz201_5, hfz201_0, hfz201_1, hfz201_2, hfz201_3, hfz201_4, hfz201_5⟩ := bxc6 BK274.out
        have hnb202 := NB273_275.out
        have hnc202 := NB275_273.out
        have hnb203 := NB273_283.out
        have hnc203 := NB283_273.out
        obtain ⟨hcz204_0, hcz204_1, hcz204_2, hcz204_3, hcz204_4, hcz204_5, hcz204_6, hcz204_7, hfz204_0, hfz204_1, hfz204_2, hfz204_3, hfz204_4, hfz204_5, hfz204_6, hfz204_7⟩ := bxc8 BK273.out
        have hnb205 := NB275_283.out
        have hnc205 := NB283_275.out
        obtain ⟨hcz206_0, hcz206_1, hcz206_2, hcz206_3, hcz206_4, hcz206_5, hcz206_6, hcz206_7, hfz206_0, hfz206_1, hfz206_2, hfz206_3, hfz206_4, hfz206_5, hfz206_6, hfz206_7⟩ := bxc8 BK275.out
        go_wp2_with (first | ((with_reducible refine gate_store (t := 32) (p := 10) rfl ?_); refine rec_event (t := 32) (p := 10) (v := ?vo_w207) (g := gb275) (t' := 32) #[.int .i64 0, .int .i64 0, .int .u8 0, .int .i64 0, .int .i64 0, .int .i64 0, .int .i64 0, .bool false] #[.int .i64 a1_0, .int .i64 a1_1, .int .u8 5, .int .i64 a1_3, .int .i64 a1_4, .int .i64 a1_5, .int .i64 a1_6, .bool a1_7] ?hg ?ho ?hn ?hx ?hy ?hb (by rfl) (by kernel_rfl) (by kernel_rfl) ?_; (case ho => rfl); (case hg => rfl); (case hn => rfl); (case hx => rfl); (case hy => rfl); (case hb => exact by (with_reducible repeat (first | refine kN ?_ _ | refine kD ?_ | refine kA ?_ _ | refine kR ?_ NB275_273.out _)); (with_reducible repeat (first | refine kN ?_ _ | refine kD ?_ | refine kA ?_ _)); exact BK275.out); intro w207 hblk hoth hbel; have n0_ : Aside0 (w207.heap[gb273]? = some (.cells #[.int .i64 a1_0, .int .i64 a1_1, .int .u8 5, .int .i64 a1_3, .int .i64 a1_4, .int .i64 a1_5, .int .i64 a1_6, .bool a1_7] 32 (0, 0))) := ⟨(hoth gb273 NB273_275.out).trans (by (with_reducible repeat (first | refine kN ?_ _ | refine kD ?_ | refine kA ?_ _)); refine bxp8_2 (o := .int .u8 a1_2) ?_; (with_reducible repeat (first | refine kN ?_ _ | refine kD ?_ | refine kA ?_ _)); exact BK273.out)⟩; have n1_ : Aside0 (w207.heap[gb274]? = some (.cells #[.int .u8 a2_0, .int .i64 a2_1, .int .i64 a2_2, .int .i64 a2_3, .int .i64 a2_4, .int .u8 a2_5] 28 (0, 0))) := ⟨(hoth gb274 NB274_275.out).trans (by (with_reducible repeat (first | refine kN ?_ _ | refine kD ?_ | refine kA ?_ _ | refine kR ?_ NB274_273.out _)); (with_reducible repeat (first | refine kN ?_ _ | refine kD ?_ | refine kA ?_ _)); exact BK274.out)⟩; have n2_ : Aside0 (w207.heap[gb275]? = some (.cells #[.int .i64 a1_0, .int .i64 a1_1, .int .u8 5, .int .i64 a1_3, .int .i64 a1_4, .int .i64 a1_5, .int .i64 a1_6, .bool a1_7] 32 (0, 0))) := ⟨hblk⟩; have n3_ : Aside0 (w207.heap[gb283]? = some (.cells #[.int .u8 t276, .int .i64 t277, .int .i64 t278, .int .i64 t279, .int .i64 t280, .int .u8 a2_5] 28 (0, 0))) := ⟨(hoth gb283 NB283_275.out).trans (by (with_reducible repeat (first | refine kN ?_ _ | refine kD ?_ | refine kA ?_ _ | refine kR ?_ NB283_273.out _)); (with_reducible repeat (first | refine kN ?_ _ | refine kD ?_ | refine kA ?_ _)); exact BK283.out)⟩; have n4_ : Aside0 (Below w.heap.size w w207) := ⟨Below.trans (by repeat (first | (with_reducible first | exact HB.out | apply kL | apply kM | apply kE | refine kS ?_ GE273.out | refine kS ?_ GE274.out | refine kS ?_ GE275.out | refine kS ?_ GE283.out) | exact HB.out)) (hbel _ GE275.out)⟩; clear hblk hoth hbel; clear BK273; clear BK274; clear BK275; clear BK283; clear HB; have BK273 := n0_; have BK274 := n1_; have BK275 := n2_; have BK283 := n3_; have HB := n4_; clear n0_ n1_ n2_ n3_ n4_))
        refine bodyPost_ret (results_ct rfl _ _ gb275 32 #[.int .i64 a1_0, .int .i64 a1_1, .int .u8 5, .int .i64 a1_3, .int .i64 a1_4, .int .i64 a1_5, .int .i64 a1_6, .bool a1_7] (0, 0) _ rfl (by (with_reducible repeat (first | refine kN ?_ _ | refine kD ?_ | refine kA ?_ _)); exact BK275.out) Tryd.underlying32 rfl (by kernel_rfl)) rfl ?_
        exact ⟨by first | rfl | (simp [errW_none, errW_some] <;> rfl) | (simp [*, errW_none, errW_some] <;> rfl), by repeat (first | (with_reducible first | exact HB.out | apply kL | apply kM | apply kE | refine kS ?_ GE273.out | refine kS ?_ GE274.out | refine kS ?_ GE275.out | refine kS ?_ GE283.out) | exact HB.out)⟩
      ·rw [if_neg c186] at H
       have c186b0 : (a1_2 == 4) = false := beq_eq_false_iff_ne.mpr c186
       have c186b1 : (a1_2 != 4) = true := bne_iff_ne.mpr c186
       by_cases c208 : a1_2 = 5
       ·rw [if_pos c208] at H
        have c208b0 : (a1_2 == 5) = true := beq_iff_eq.mpr c208
        have c208b1 : (a1_2 != 5) = false := bne_eq_false_iff_eq.mpr c208
        clear c208
        replace H := Option.bind_eq_some_iff.mp H
        obtain ⟨⟨t307, t308, t309, t310, t311, t312, t313, t314⟩, A2090, H⟩ := H
        replace H : (some (t307, t308, t309, t310, t311, t312, t313, t314, true)) = some (r1, r2, r3, r4, r5, r6, r7, r8, r9) := H
        have A209 := Aside0.mk A2090
        clear A2090
        simp only [Option.some.injEq, Prod.mk.injEq] at H
        obtain ⟨rfl, rfl, rfl, rfl, rfl, rfl, rfl, rfl, rfl⟩ := H
        have hnb210 := NB274_273.out
        have hnc210 := NB273_274.out
        have hnb211 := NB274_275.out
        have hnc211 := NB275_274.out
        have hnb212 := NB274_283.out
        have hnc212 := NB283_274.out
        obtain ⟨hcz213_0, hcz213_1, hcz213_2, hcz213_3, hcz213_4, hcz213_5, hfz213_0, hfz213_1, hfz213_2, hfz213_3, hfz213_4, hfz213_5⟩ := bxc6 BK274.out
        have hnb214 := NB273_275.out
        have hnc214 := NB275_273.out
        have hnb215 := NB273_283.out
        have hnc215 := NB283_273.out
        obtain ⟨hcz216_0, hcz216_1, hcz216_2, hcz216_3, hcz216_4, hcz216_5, hcz216_6, hcz216_7, hfz216_0, hfz216_1, hfz216_2, hfz216_3, hfz216_4, hfz216_5, hfz216_6, hfz216_7⟩ := bxc8 BK273.out
        go_wp2_with (first | ((with_reducible refine gate_callee (f := 32) rfl ?_); refine goesL_ (some 103) rfl rfl Tryd.func32 (by kernel_rfl) rfl #[.agg #[.int .i64 a1_0, .int .i64 a1_1, .int .u8 a1_2, .int .i64 a1_3, .int .i64 a1_4, .int .i64 a1_5, .int .i64 a1_6, .bool a1_7]] rfl (by (try simp only [List.map_toArray, List.map_cons, List.map_nil]); first | done | rfl | (simp only [List.length_drop, List.length_take]; rfl)) ?_; (with_reducible refine (paybookref12_back.calls a1_0 a1_1 a1_2 a1_3 a1_4 a1_5 a1_6 a1_7 t307 t308 t309 t310 t311 t312 t313 t314 _ A209.out).mono ?_); rintro e w217 ⟨rfl, hb⟩; refine ⟨_, rfl, ?_⟩; have n0_ := Aside0.mk (blk_below (g := gb273) (o := .cells #[.int .i64 a1_0, .int .i64 a1_1, .int .u8 a1_2, .int .i64 a1_3, .int .i64 a1_4, .int .i64 a1_5, .int .i64 a1_6, .bool a1_7] 32 (0, 0)) (by (with_reducible repeat (first | refine kN ?_ _ | refine kD ?_ | refine kA ?_ _)); exact BK273.out) hb); have n1_ := Aside0.mk (blk_below (g := gb274) (o := .cells #[.int .u8 a2_0, .int .i64 a2_1, .int .i64 a2_2, .int .i64 a2_3, .int .i64 a2_4, .int .u8 a2_5] 28 (0, 0)) (by (with_reducible repeat (first | refine kN ?_ _ | refine kD ?_ | refine kA ?_ _)); exact BK274.out) hb); have n2_ := Aside0.mk (blk_below (g := gb275) (o := .cells #[.int .i64 0, .int .i64 0, .int .u8 0, .int .i64 0, .int .i64 0, .int .i64 0, .int .i64 0, .bool false] 32 (0, 0)) (by (with_reducible repeat (first | refine kN ?_ _ | refine kD ?_ | refine kA ?_ _)); exact BK275.out) hb); have n3_ := Aside0.mk (blk_below (g := gb283) (o := .cells #[.int .u8 t276, .int .i64 t277, .int .i64 t278, .int .i64 t279, .int .i64 t280, .int .u8 a2_5] 28 (0, 0)) (by (with_reducible repeat (first | refine kN ?_ _ | refine kD ?_ | refine kA ?_ _)); exact BK283.out) hb); have n4_ := Aside0.mk (below_step (by repeat (first | (with_reducible first | exact HB.out | apply kL | apply kM | apply kE | refine kS ?_ GE273.out | refine kS ?_ GE274.out | refine kS ?_ GE275.out | refine kS ?_ GE283.out) | exact HB.out)) hb); clear BK273; clear BK274; clear BK275; clear BK283; clear HB; have BK273 := n0_; have BK274 := n1_; have BK275 := n2_; have BK283 := n3_; have HB := n4_; clear n0_ n1_ n2_ n3_ n4_; (try clear hb); (try clear hb2); (try clear hk); (try clear hi); obtain ⟨hcz218_0, hcz218_1, hcz218_2, hcz218_3, hcz218_4, hcz218_5, hcz218_6, hcz218_7, hfz218_0, hfz218_1, hfz218_2, hfz218_3, hfz218_4, hfz218_5, hfz218_6, hfz218_7⟩ := bxc8 BK273.out) | ((with_reducible refine gate_store (t := 32) (p := 6) rfl ?_); refine rec_event (t := 32) (p := 6) (v := ?vo_w219) (g := gb273) (t' := 32) #[.int .i64 a1_0, .int .i64 a1_1, .int .u8 a1_2, .int .i64 a1_3, .int .i64 a1_4, .int .i64 a1_5, .int .i64 a1_6, .bool a1_7] #[.int .i64 t307, .int .i64 t308, .int .u8 t309, .int .i64 t310, .int .i64 t311, .int .i64 t312, .int .i64 t313, .bool t314] ?hg ?ho ?hn ?hx ?hy ?hb (by rfl) (by kernel_rfl) (by kernel_rfl) ?_; (case ho => rfl); (case hg => rfl); (case hn => rfl); (case hx => rfl); (case hy => rfl); (case hb => exact BK273.out); intro w219 hblk hoth hbel; have n0_ : Aside0 (w219.heap[gb273]? = some (.cells #[.int .i64 t307, .int .i64 t308, .int .u8 t309, .int .i64 t310, .int .i64 t311, .int .i64 t312, .int .i64 t313, .bool t314] 32 (0, 0))) := ⟨hblk⟩; have n1_ : Aside0 (w219.heap[gb274]? = some (.cells #[.int .u8 a2_0, .int .i64 a2_1, .int .i64 a2_2, .int .i64 a2_3, .int .i64 a2_4, .int .u8 a2_5] 28 (0, 0))) := ⟨(hoth gb274 NB274_273.out).trans (by (with_reducible repeat (first | refine kN ?_ _ | refine kD ?_ | refine kA ?_ _)); exact BK274.out)⟩; have n2_ : Aside0 (w219.heap[gb275]? = some (.cells #[.int .i64 0, .int .i64 0, .int .u8 0, .int .i64 0, .int .i64 0, .int .i64 0, .int .i64 0, .bool false] 32 (0, 0))) := ⟨(hoth gb275 NB275_273.out).trans (by (with_reducible repeat (first | refine kN ?_ _ | refine kD ?_ | refine kA ?_ _)); exact BK275.out)⟩; have n3_ : Aside0 (w219.heap[gb283]? = some (.cells #[.int .u8 t276, .int .i64 t277, .int .i64 t278, .int .i64 t279, .int .i64 t280, .int .u8 a2_5] 28 (0, 0))) := ⟨(hoth gb283 NB283_273.out).trans (by (with_reducible repeat (first | refine kN ?_ _ | refine kD ?_ | refine kA ?_ _)); exact BK283.out)⟩; have n4_ : Aside0 (Below w.heap.size w w219) := ⟨Below.trans (by repeat (first | (with_reducible first | exact HB.out | apply kL | apply kM | apply kE | refine kS ?_ GE273.out | refine kS ?_ GE274.out | refine kS ?_ GE275.out | refine kS ?_ GE283.out) | exact HB.out)) (hbel _ GE273.out)⟩; clear hblk hoth hbel; clear BK273; clear BK274; clear BK275; clear BK283; clear HB; have BK273 := n0_; have BK274 := n1_; have BK275 := n2_; have BK283 := n3_; have HB := n4_; clear n0_ n1_ n2_ n3_ n4_; obtain ⟨hcz220_0, hcz220_1, hcz220_2, hcz220_3, hcz220_4, hcz220_5, hcz220_6, hcz220_7, hfz220_0, hfz220_1, hfz220_2, hfz220_3, hfz220_4, hfz220_5, hfz220_6, hfz220_7⟩ := bxc8 BK273.out; have hnb221 := NB275_283.out; have hnc221 := NB283_275.out; obtain ⟨hcz222_0, hcz222_1, hcz222_2, hcz222_3, hcz222_4, hcz222_5, hcz222_6, hcz222_7, hfz222_0, hfz222_1, hfz222_2, hfz222_3, hfz222_4, hfz222_5, hfz222_6, hfz222_7⟩ := bxc8 BK275.out) | ((with_reducible refine gate_store (t := 32) (p := 10) rfl ?_); refine rec_event (t := 32) (p := 10) (v := ?vo_w223) (g := gb275) (t' := 32) #[.int .i64 0, .int .i64 0, .int .u8 0, .int .i64 0, .int .i64 0, .int .i64 0, .int .i64 0, .bool false] #[.int .i64 t307, .int .i64 t308, .int .u8 t309, .int .i64 t310, .int .i64 t311, .int .i64 t312, .int .i64 t313, .bool t314] ?hg ?ho ?hn ?hx ?hy ?hb (by rfl) (by kernel_rfl) (by kernel_rfl) ?_; (case ho => rfl); (case hg => rfl); (case hn => rfl); (case hx => rfl); (case hy => rfl); (case hb => exact BK275.out); intro w223 hblk hoth hbel; have n0_ : Aside0 (w223.heap[gb273]? = some (.cells #[.int .i64 t307, .int .i64 t308, .int .u8 t309, .int .i64 t310, .int .i64 t311, .int .i64 t312, .int .i64 t313, .bool t314] 32 (0, 0))) := ⟨(hoth gb273 NB273_275.out).trans (by (with_reducible repeat (first | refine kN ?_ _ | refine kD ?_ | refine kA ?_ _)); exact BK273.out)⟩; have n1_ : Aside0 (w223.heap[gb274]? = some (.cells #[.int .u8 a2_0, .int .i64 a2_1, .int .i64 a2_2, .int .i64 a2_3, .int .i64 a2_4, .int .u8 a2_5] 28 (0, 0))) := ⟨(hoth gb274 NB274_275.out).trans (by (with_reducible repeat (first | refine kN ?_ _ | refine kD ?_ | refine kA ?_ _)); exact BK274.out)⟩; have n2_ : Aside0 (w223.heap[gb275]? = some (.cells #[.int .i64 t307, .int .i64 t308, .int .u8 t309, .int .i64 t310, .int .i64 t311, .int .i64 t312, .int .i64 t313, .bool t314] 32 (0, 0))) := ⟨hblk⟩; have n3_ : Aside0 (w223.heap[gb283]? = some (.cells #[.int .u8 t276, .int .i64 t277, .int .i64 t278, .int .i64 t279, .int .i64 t280, .int .u8 a2_5] 28 (0, 0))) := ⟨(hoth gb283 NB283_275.out).trans (by (with_reducible repeat (first | refine kN ?_ _ | refine kD ?_ | refine kA ?_ _)); exact BK283.out)⟩; have n4_ : Aside0 (Below w.heap.size w w223) := ⟨Below.trans (by repeat (first | (with_reducible first | exact HB.out | apply kL | apply kM | apply kE | refine kS ?_ GE273.out | refine kS ?_ GE274.out | refine kS ?_ GE275.out | refine kS ?_ GE283.out) | exact HB.out)) (hbel _ GE275.out)⟩; clear hblk hoth hbel; clear BK273; clear BK274; clear BK275; clear BK283; clear HB; have BK273 := n0_; have BK274 := n1_; have BK275 := n2_; have BK283 := n3_; have HB := n4_; clear n0_ n1_ n2_ n3_ n4_))
        refine bodyPost_ret (results_ct rfl _ _ gb275 32 #[.int .i64 t307, .int .i64 t308, .int .u8 t309, .int .i64 t310, .int .i64 t311, .int .i64 t312, .int .i64 t313, .bool t314] (0, 0) _ rfl (by (with_reducible repeat (first | refine kN ?_ _ | refine kD ?_ | refine kA ?_ _)); exact BK275.out) Tryd.underlying32 rfl (by kernel_rfl)) rfl ?_
        exact ⟨by first | rfl | (simp [errW_none, errW_some] <;> rfl) | (simp [*, errW_none, errW_some] <;> rfl), by repeat (first | (with_reducible first | exact HB.out | apply kL | apply kM | apply kE | refine kS ?_ GE273.out | refine kS ?_ GE274.out | refine kS ?_ GE275.out | refine kS ?_ GE283.out) | exact HB.out)⟩
       ·rw [if_neg c208] at H
        have c208b0 : (a1_2 == 5) = false := beq_eq_false_iff_ne.mpr c208
        have c208b1 : (a1_2 != 5) = true := bne_iff_ne.mpr c208
        simp only [Option.some.injEq, Prod.mk.injEq] at H
        obtain ⟨rfl, rfl, rfl, rfl, rfl, rfl, rfl, rfl, rfl⟩ := H
        have hnb224 := NB274_273.out
        have hnc224 := NB273_274.out
        have hnb225 := NB274_275.out
        have hnc225 := NB275_274.out
        have hnb226 := NB274_283.out
        have hnc226 := NB283_274.out
        obtain ⟨hcz227_0, hcz227_1, hcz227_2, hcz227_3, hcz227_4, hcz227_5, hfz227_0, hfz227_1, hfz227_2, hfz227_3, hfz227_4, hfz227_5⟩ := bxc6 BK274.out
        have hnb228 := NB273_275.out
        have hnc228 := NB275_273.out
        have hnb229 := NB273_283.out
        have hnc229 := NB283_273.out
        obtain ⟨hcz230_0, hcz230_1, hcz230_2, hcz230_3, hcz230_4, hcz230_5, hcz230_6, hcz230_7, hfz230_0, hfz230_1, hfz230_2, hfz230_3, hfz230_4, hfz230_5, hfz230_6, hfz230_7⟩ := bxc8 BK273.out
        have hnb231 := NB275_283.out
        have hnc231 := NB283_275.out
        obtain ⟨hcz232_0, hcz232_1, hcz232_2, hcz232_3, hcz232_4, hcz232_5, hcz232_6, hcz232_7, hfz232_0, hfz232_1, hfz232_2, hfz232_3, hfz232_4, hfz232_5, hfz232_6, hfz232_7⟩ := bxc8 BK275.out
        go_wp2_with (first | ((with_reducible refine gate_store (t := 32) (p := 10) rfl ?_); refine rec_event (t := 32) (p := 10) (v := ?vo_w233) (g := gb275) (t' := 32) #[.int .i64 0, .int .i64 0, .int .u8 0, .int .i64 0, .int .i64 0, .int .i64 0, .int .i64 0, .bool false] #[.int .i64 a1_0, .int .i64 a1_1, .int .u8 9, .int .i64 a1_3, .int .i64 a1_4, .int .i64 a1_5, .int .i64 a1_6, .bool a1_7] ?hg ?ho ?hn ?hx ?hy ?hb (by rfl) (by kernel_rfl) (by kernel_rfl) ?_; (case ho => rfl); (case hg => rfl); (case hn => rfl); (case hx => rfl); (case hy => rfl); (case hb => exact by (with_reducible repeat (first | refine kN ?_ _ | refine kD ?_ | refine kA ?_ _ | refine kR ?_ NB275_273.out _)); (with_reducible repeat (first | refine kN ?_ _ | refine kD ?_ | refine kA ?_ _)); exact BK275.out); intro w233 hblk hoth hbel; have n0_ : Aside0 (w233.heap[gb273]? = some (.cells #[.int .i64 a1_0, .int .i64 a1_1, .int .u8 9, .int .i64 a1_3, .int .i64 a1_4, .int .i64 a1_5, .int .i64 a1_6, .bool a1_7] 32 (0, 0))) := ⟨(hoth gb273 NB273_275.out).trans (by (with_reducible repeat (first | refine kN ?_ _ | refine kD ?_ | refine kA ?_ _)); refine bxp8_2 (o := .int .u8 a1_2) ?_; (with_reducible repeat (first | refine kN ?_ _ | refine kD ?_ | refine kA ?_ _)); exact BK273.out)⟩; have n1_ : Aside0 (w233.heap[gb274]? = some (.cells #[.int .u8 a2_0, .int .i64 a2_1, .int .i64 a2_2, .int .i64 a2_3, .int .i64 a2_4, .int .u8 a2_5] 28 (0, 0))) := ⟨(hoth gb274 NB274_275.out).trans (by (with_reducible repeat (first | refine kN ?_ _ | refine kD ?_ | refine kA ?_ _ | refine kR ?_ NB274_273.out _)); (with_reducible repeat (first | refine kN ?_ _ | refine kD ?_ | refine kA ?_ _)); exact BK274.out)⟩; have n2_ : Aside0 (w233.heap[gb275]? = some (.cells #[.int .i64 a1_0, .int .i64 a1_1, .int .u8 9, .int .i64 a1_3, .int .i64 a1_4, .int .i64 a1_5, .int .i64 a1_6, .bool a1_7] 32 (0, 0))) := ⟨hblk⟩; have n3_ : Aside0 (w233.heap[gb283]? = some (.cells #[.int .u8 t276, .int .i64 t277, .int .i64 t278, .int .i64 t279, .int .i64 t280, .int .u8 a2_5] 28 (0, 0))) := ⟨(hoth gb283 NB283_275.out).trans (by (with_reducible repeat (first | refine kN ?_ _ | refine kD ?_ | refine kA ?_ _ | refine kR ?_ NB283_273.out _)); (with_reducible repeat (first | refine kN ?_ _ | refine kD ?_ | refine kA ?_ _)); exact BK283.out)⟩; have n4_ : Aside0 (Below w.heap.size w w233) := ⟨Below.trans (by repeat (first | (with_reducible first | exact HB.out | apply kL | apply kM | apply kE | refine kS ?_ GE273.out | refine kS ?_ GE274.out | refine kS ?_ GE275.out | refine kS ?_ GE283.out) | exact HB.out)) (hbel _ GE275.out)⟩; clear hblk hoth hbel; clear BK273; clear BK274; clear BK275; clear BK283; clear HB; have BK273 := n0_; have BK274 := n1_; have BK275 := n2_; have BK283 := n3_; have HB := n4_; clear n0_ n1_ n2_ n3_ n4_))
        refine bodyPost_ret (results_ct rfl _ _ gb275 32 #[.int .i64 a1_0, .int .i64 a1_1, .int .u8 9, .int .i64 a1_3, .int .i64 a1_4, .int .i64 a1_5, .int .i64 a1_6, .bool a1_7] (0, 0) _ rfl (by (with_reducible repeat (first | refine kN ?_ _ | refine kD ?_ | refine kA ?_ _)); exact BK275.out) Tryd.underlying32 rfl (by kernel_rfl)) rfl ?_
        exact ⟨by first | rfl | (simp [errW_none, errW_some] <;> rfl) | (simp [*, errW_none, errW_some] <;> rfl), by repeat (first | (with_reducible first | exact HB.out | apply kL | apply kM | apply kE | refine kS ?_ GE273.out | refine kS ?_ GE274.out | refine kS ?_ GE275.out | refine kS ?_ GE283.out) | exact HB.out)⟩

end Go.Proofs.YtlfaaogifplgeaaDoor.PA
