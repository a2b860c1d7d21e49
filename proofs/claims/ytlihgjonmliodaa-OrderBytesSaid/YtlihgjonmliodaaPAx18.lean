-- printed by this workplace: wip/patchprint.py over the kit's print
import Derived.Test.YtlihgjonmliodaaPAx0
import Derived.Test.YtlihgjonmliodaaPAx2
import Derived.Test.YtlihgjonmliodaaPAx6
import Derived.Test.YtlihgjonmliodaaPAx17
namespace Go.Proofs.Ytlihgjonmliodaa.PA
open Go.RowKit Go.Proofs.YtlihgjonmliodaaW.PrintWords Go.Proofs.YtlihgjonmliodaaW.PrintLast Go.Proofs.YtlihgjonmliodaaW.PrintMore
attribute [local go_sem] max2_int min2_int max_two min_two max_three min_three max_four min_four   -- for this text's walks alone
set_option linter.unusedVariables false
set_option linter.unusedSimpArgs false

attribute [local go_sem high] eqA27
/-! ### paybooklaw10_right: function 12 -/
mutual
def paybooklaw10_right.j0 : Nat → Bool → Int → Bool → Int → Int → Int → Int → Int → Int → Int → Int → Bool → Bool → Int → Int → Int → Int → Int → Int → Int → Int → Int → Int → Int → Int → Int → Int → Bool → Bool → Int → Int → Int → Int → Int → Int → Option (Int)
 | 0, _, _, _, _, _, _, _, _, _, _, _, _, _, _, _, _, _, _, _, _, _, _, _, _, _, _, _, _, _, _, _, _, _, _, _ => none
 | k + 1, x4, x9, x21, x279000, x279001, x279002, x279003, x279004, x279005, x279006, x279007, x279008, x279009, x279010, x279011, x279012, x279013, x279014, x279015, x280000, x280001, x280002, x280003, x280004, x280005, x280006, x280007, x280008, x280009, x280010, x280011, x280012, x280013, x280014, x280015 => if x21 = true then (if x279001 ≥ 0 then (if x279001 < 32 then (if x279002 ≥ 0 then (if x279002 < 8 then (if (x279000 == x280000 && (x279003 == x280003 && ((x279004 == x280004 && (x279005 == x280005 && (x279006 == x280006 && (x279007 == x280007 && (x279008 == x280008 && (x279009 == x280009)))))) && ((x279010 == x280010 && (x279011 == x280011 && (x279012 == x280012 && (x279013 == x280013 && (x279014 == x280014 && (x279015 == x280015)))))))))) = true then (some 0) else (some 1)) else (some 1)) else (some 1)) else (some 1)) else (some 1)) else (if x9 = 4 then (paybooklaw10_right.j1 k x4 x9 (x9 == 4) x279000 x279001 x279002 x279003 x279004 x279005 x279006 x279007 x279008 x279009 x279010 x279011 x279012 x279013 x279014 x279015 x280000 x280001 x280002 x280003 x280004 x280005 x280006 x280007 x280008 x280009 x280010 x280011 x280012 x280013 x280014 x280015) else (if x9 = 5 then (paybooklaw10_right.j1 k x4 x9 (x9 == 5) x279000 x279001 x279002 x279003 x279004 x279005 x279006 x279007 x279008 x279009 x279010 x279011 x279012 x279013 x279014 x279015 x280000 x280001 x280002 x280003 x280004 x280005 x280006 x280007 x280008 x280009 x280010 x280011 x280012 x280013 x280014 x280015) else (if x9 = 6 then (paybooklaw10_right.j1 k x4 x9 (x9 == 6) x279000 x279001 x279002 x279003 x279004 x279005 x279006 x279007 x279008 x279009 x279010 x279011 x279012 x279013 x279014 x279015 x280000 x280001 x280002 x280003 x280004 x280005 x280006 x280007 x280008 x280009 x280010 x280011 x280012 x280013 x280014 x280015) else (if x9 = 7 then (paybooklaw10_right.j1 k x4 x9 (x9 == 7) x279000 x279001 x279002 x279003 x279004 x279005 x279006 x279007 x279008 x279009 x279010 x279011 x279012 x279013 x279014 x279015 x280000 x280001 x280002 x280003 x280004 x280005 x280006 x280007 x280008 x280009 x280010 x280011 x280012 x280013 x280014 x280015) else (paybooklaw10_right.j1 k x4 x9 (x9 == 8) x279000 x279001 x279002 x279003 x279004 x279005 x279006 x279007 x279008 x279009 x279010 x279011 x279012 x279013 x279014 x279015 x280000 x280001 x280002 x280003 x280004 x280005 x280006 x280007 x280008 x280009 x280010 x280011 x280012 x280013 x280014 x280015)))))
def paybooklaw10_right.j1 : Nat → Bool → Int → Bool → Int → Int → Int → Int → Int → Int → Int → Int → Bool → Bool → Int → Int → Int → Int → Int → Int → Int → Int → Int → Int → Int → Int → Int → Int → Bool → Bool → Int → Int → Int → Int → Int → Int → Option (Int)
 | 0, _, _, _, _, _, _, _, _, _, _, _, _, _, _, _, _, _, _, _, _, _, _, _, _, _, _, _, _, _, _, _, _, _, _, _ => none
 | k + 1, x4, x9, x48, x279000, x279001, x279002, x279003, x279004, x279005, x279006, x279007, x279008, x279009, x279010, x279011, x279012, x279013, x279014, x279015, x280000, x280001, x280002, x280003, x280004, x280005, x280006, x280007, x280008, x280009, x280010, x280011, x280012, x280013, x280014, x280015 => if x48 = true then (if x279001 ≥ 0 then (if x279001 < 32 then (if (x279000 == x280000 && (x279002 == x280002 && (x279003 == x280003 && ((x279004 == x280004 && (x279005 == x280005 && (x279006 == x280006 && (x279007 == x280007 && (x279008 == x280008 && (x279009 == x280009)))))) && ((x279010 == x280010 && (x279011 == x280011 && (x279012 == x280012 && (x279013 == x280013 && (x279014 == x280014 && (x279015 == x280015))))))))))) = true then (some 0) else (some 1)) else (some 1)) else (some 1)) else (if x9 = 9 then (if x279003 ≥ 1 then (if x279003 ≤ 60 then (if (x279000 == x280000 && (x279001 == x280001 && (x279002 == x280002 && ((x279004 == x280004 && (x279005 == x280005 && (x279006 == x280006 && (x279007 == x280007 && (x279008 == x280008 && (x279009 == x280009)))))) && ((x279010 == x280010 && (x279011 == x280011 && (x279012 == x280012 && (x279013 == x280013 && (x279014 == x280014 && (x279015 == x280015))))))))))) = true then (some 0) else (some 1)) else (some 1)) else (some 1)) else (if x9 = 10 then ((paybooklaw10_key.f x279010 x279011 x279012 x279013 x279014 x279015).bind fun t281 => (if t281 = true then (if x279010 ≥ 1 then (if x279010 ≤ 5 then (if x279015 ≥ 1 then (if x279015 ≤ 3 then (if (x279000 == x280000 && (x279001 == x280001 && (x279002 == x280002 && (x279003 == x280003 && ((x279004 == x280004 && (x279005 == x280005 && (x279006 == x280006 && (x279007 == x280007 && (x279008 == x280008 && (x279009 == x280009))))))))))) = true then (some 0) else (some 1)) else (some 1)) else (some 1)) else (some 1)) else (some 1)) else (some 1))) else (if x4 = true then (if (x279000 == x280000 && (x279001 == x280001 && (x279002 == x280002 && (x279003 == x280003 && ((x279004 == x280004 && (x279005 == x280005 && (x279006 == x280006 && (x279007 == x280007 && (x279008 == x280008 && (x279009 == x280009)))))) && ((x279010 == x280010 && (x279011 == x280011 && (x279012 == x280012 && (x279013 == x280013 && (x279014 == x280014 && (x279015 == x280015)))))))))))) = true then (some 0) else (some 1)) else (some 1))))
end
def paybooklaw10_right.f (k : Nat) (a0_0 : Int) (a0_1 : Int) (a0_2 : Int) (a0_3 : Int) (a0_4 : Int) (a0_5 : Int) (a0_6 : Int) (a0_7 : Int) (a0_8 : Bool) (a0_9 : Bool) (a0_10 : Int) (a0_11 : Int) (a0_12 : Int) (a0_13 : Int) (a0_14 : Int) (a0_15 : Int) : Option (Int) := if a0_0 = 1 then (if (a0_1 == 0 && (a0_2 == 0 && (a0_3 == 0 && ((a0_10 == 0 && (a0_11 == 0 && (a0_12 == 0 && (a0_13 == 0 && (a0_14 == 0 && (a0_15 == 0)))))))))) = true then ((plan_Right.f k a0_4 a0_5 a0_6 a0_7 a0_8 a0_9).bind fun t280 => (some t280)) else (some 1)) else (if a0_0 = 2 then (paybooklaw10_right.j0 k false a0_0 (a0_0 == 2) a0_0 a0_1 a0_2 a0_3 a0_4 a0_5 a0_6 a0_7 a0_8 a0_9 a0_10 a0_11 a0_12 a0_13 a0_14 a0_15 a0_0 0 0 0 0 0 0 0 false false 0 0 0 0 0 0) else (paybooklaw10_right.j0 k false a0_0 (a0_0 == 3) a0_0 a0_1 a0_2 a0_3 a0_4 a0_5 a0_6 a0_7 a0_8 a0_9 a0_10 a0_11 a0_12 a0_13 a0_14 a0_15 a0_0 0 0 0 0 0 0 0 false false 0 0 0 0 0 0))
theorem paybooklaw10_right.mono_l : ∀ k, (∀ y0 y1 y2 y3 y4 y5 y6 y7 y8 y9 y10 y11 y12 y13 y14 y15 y16 y17 y18 y19 y20 y21 y22 y23 y24 y25 y26 y27 y28 y29 y30 y31 y32 y33 y34, LeO (paybooklaw10_right.j0 k y0 y1 y2 y3 y4 y5 y6 y7 y8 y9 y10 y11 y12 y13 y14 y15 y16 y17 y18 y19 y20 y21 y22 y23 y24 y25 y26 y27 y28 y29 y30 y31 y32 y33 y34) (paybooklaw10_right.j0 (k + 1) y0 y1 y2 y3 y4 y5 y6 y7 y8 y9 y10 y11 y12 y13 y14 y15 y16 y17 y18 y19 y20 y21 y22 y23 y24 y25 y26 y27 y28 y29 y30 y31 y32 y33 y34)) ∧ (∀ y0 y1 y2 y3 y4 y5 y6 y7 y8 y9 y10 y11 y12 y13 y14 y15 y16 y17 y18 y19 y20 y21 y22 y23 y24 y25 y26 y27 y28 y29 y30 y31 y32 y33 y34, LeO (paybooklaw10_right.j1 k y0 y1 y2 y3 y4 y5 y6 y7 y8 y9 y10 y11 y12 y13 y14 y15 y16 y17 y18 y19 y20 y21 y22 y23 y24 y25 y26 y27 y28 y29 y30 y31 y32 y33 y34) (paybooklaw10_right.j1 (k + 1) y0 y1 y2 y3 y4 y5 y6 y7 y8 y9 y10 y11 y12 y13 y14 y15 y16 y17 y18 y19 y20 y21 y22 y23 y24 y25 y26 y27 y28 y29 y30 y31 y32 y33 y34))
 | 0 => ⟨fun _ _ _ _ _ _ _ _ _ _ _ _ _ _ _ _ _ _ _ _ _ _ _ _ _ _ _ _ _ _ _ _ _ _ _ r h => by simp [paybooklaw10_right.j0] at h, fun _ _ _ _ _ _ _ _ _ _ _ _ _ _ _ _ _ _ _ _ _ _ _ _ _ _ _ _ _ _ _ _ _ _ _ r h => by simp [paybooklaw10_right.j1] at h⟩
 | k + 1 => by
  obtain ⟨ih0, ih1⟩ := paybooklaw10_right.mono_l k
  refine ⟨?_, ?_⟩
  ·intro y0 y1 y2 y3 y4 y5 y6 y7 y8 y9 y10 y11 y12 y13 y14 y15 y16 y17 y18 y19 y20 y21 y22 y23 y24 y25 y26 y27 y28 y29 y30 y31 y32 y33 y34
   unfold paybooklaw10_right.j0
   repeat' first
   | (with_reducible exact ih0 _ _ _ _ _ _ _ _ _ _ _ _ _ _ _ _ _ _ _ _ _ _ _ _ _ _ _ _ _ _ _ _ _ _ _)
   | (with_reducible exact ih1 _ _ _ _ _ _ _ _ _ _ _ _ _ _ _ _ _ _ _ _ _ _ _ _ _ _ _ _ _ _ _ _ _ _ _)
   | (with_reducible exact plan_Right.mono _ _ _ _ _ _ _)
   | (with_reducible exact LeO.refl _)
   | (with_reducible exact LeO.none _)
   | (with_reducible refine LeO.ite ?_ ?_)
   | (with_reducible refine LeO.bind ?_ (fun _ => ?_))
   | exact ih0 _ _ _ _ _ _ _ _ _ _ _ _ _ _ _ _ _ _ _ _ _ _ _ _ _ _ _ _ _ _ _ _ _ _ _
   | exact ih1 _ _ _ _ _ _ _ _ _ _ _ _ _ _ _ _ _ _ _ _ _ _ _ _ _ _ _ _ _ _ _ _ _ _ _
   | exact plan_Right.mono _ _ _ _ _ _ _
   | exact LeO.none _
   | refine LeO.ite ?_ ?_
   | refine LeO.bind ?_ (fun _ => ?_)
  ·intro y0 y1 y2 y3 y4 y5 y6 y7 y8 y9 y10 y11 y12 y13 y14 y15 y16 y17 y18 y19 y20 y21 y22 y23 y24 y25 y26 y27 y28 y29 y30 y31 y32 y33 y34
   unfold paybooklaw10_right.j1
   repeat' first
   | (with_reducible exact ih0 _ _ _ _ _ _ _ _ _ _ _ _ _ _ _ _ _ _ _ _ _ _ _ _ _ _ _ _ _ _ _ _ _ _ _)
   | (with_reducible exact ih1 _ _ _ _ _ _ _ _ _ _ _ _ _ _ _ _ _ _ _ _ _ _ _ _ _ _ _ _ _ _ _ _ _ _ _)
   | (with_reducible exact plan_Right.mono _ _ _ _ _ _ _)
   | (with_reducible exact LeO.refl _)
   | (with_reducible exact LeO.none _)
   | (with_reducible refine LeO.ite ?_ ?_)
   | (with_reducible refine LeO.bind ?_ (fun _ => ?_))
   | exact ih0 _ _ _ _ _ _ _ _ _ _ _ _ _ _ _ _ _ _ _ _ _ _ _ _ _ _ _ _ _ _ _ _ _ _ _
   | exact ih1 _ _ _ _ _ _ _ _ _ _ _ _ _ _ _ _ _ _ _ _ _ _ _ _ _ _ _ _ _ _ _ _ _ _ _
   | exact plan_Right.mono _ _ _ _ _ _ _
   | exact LeO.none _
   | refine LeO.ite ?_ ?_
   | refine LeO.bind ?_ (fun _ => ?_)
theorem paybooklaw10_right.mono : ∀ a0 a1 a2 a3 a4 a5 a6 a7 a8 a9 a10 a11 a12 a13 a14 a15 k, LeO (paybooklaw10_right.f k a0 a1 a2 a3 a4 a5 a6 a7 a8 a9 a10 a11 a12 a13 a14 a15) (paybooklaw10_right.f (k + 1) a0 a1 a2 a3 a4 a5 a6 a7 a8 a9 a10 a11 a12 a13 a14 a15) := by
 intro a0 a1 a2 a3 a4 a5 a6 a7 a8 a9 a10 a11 a12 a13 a14 a15 k
 obtain ⟨ih0, ih1⟩ := paybooklaw10_right.mono_l k
 unfold paybooklaw10_right.f
 repeat' first
   | (with_reducible exact ih0 _ _ _ _ _ _ _ _ _ _ _ _ _ _ _ _ _ _ _ _ _ _ _ _ _ _ _ _ _ _ _ _ _ _ _)
   | (with_reducible exact ih1 _ _ _ _ _ _ _ _ _ _ _ _ _ _ _ _ _ _ _ _ _ _ _ _ _ _ _ _ _ _ _ _ _ _ _)
   | (with_reducible exact plan_Right.mono _ _ _ _ _ _ _)
   | (with_reducible exact LeO.refl _)
   | (with_reducible exact LeO.none _)
   | (with_reducible refine LeO.ite ?_ ?_)
   | (with_reducible refine LeO.bind ?_ (fun _ => ?_))
   | exact ih0 _ _ _ _ _ _ _ _ _ _ _ _ _ _ _ _ _ _ _ _ _ _ _ _ _ _ _ _ _ _ _ _ _ _ _
   | exact ih1 _ _ _ _ _ _ _ _ _ _ _ _ _ _ _ _ _ _ _ _ _ _ _ _ _ _ _ _ _ _ _ _ _ _ _
   | exact plan_Right.mono _ _ _ _ _ _ _
   | exact LeO.none _
   | refine LeO.ite ?_ ?_
   | refine LeO.bind ?_ (fun _ => ?_)
set_option maxHeartbeats 40000000 in
set_option maxRecDepth 100000 in
theorem paybooklaw10_right.calls (k : Nat) (a0_0 : Int) (a0_1 : Int) (a0_2 : Int) (a0_3 : Int) (a0_4 : Int) (a0_5 : Int) (a0_6 : Int) (a0_7 : Int) (a0_8 : Bool) (a0_9 : Bool) (a0_10 : Int) (a0_11 : Int) (a0_12 : Int) (a0_13 : Int) (a0_14 : Int) (a0_15 : Int) (r : Int) (w : World) (h : paybooklaw10_right.f k a0_0 a0_1 a0_2 a0_3 a0_4 a0_5 a0_6 a0_7 a0_8 a0_9 a0_10 a0_11 a0_12 a0_13 a0_14 a0_15 = some r) :
  Calls Try.prog 12 #[.agg #[.int .u8 a0_0, .int .i64 a0_1, .int .i64 a0_2, .int .i64 a0_3, .int .i64 a0_4, .int .u8 a0_5, .int .i64 a0_6, .int .i64 a0_7, .bool a0_8, .bool a0_9, .int .u8 a0_10, .int .i64 a0_11, .int .i64 a0_12, .int .i64 a0_13, .int .i64 a0_14, .int .u8 a0_15]] w fun e w' => e = .returned (.int .i64 r) ∧ Below w.heap.size w w' := by
 have hu27 := Try.underlying27
 have hu23 := Try.underlying23
 have hu25 := Try.underlying25
 have HB := Aside0.mk (Below.refl w.heap.size w)
 have H : (if a0_0 = 1 then (if (a0_1 == 0 && (a0_2 == 0 && (a0_3 == 0 && ((a0_10 == 0 && (a0_11 == 0 && (a0_12 == 0 && (a0_13 == 0 && (a0_14 == 0 && (a0_15 == 0)))))))))) = true then ((plan_Right.f k a0_4 a0_5 a0_6 a0_7 a0_8 a0_9).bind fun t280 => (some t280)) else (some 1)) else (if a0_0 = 2 then (paybooklaw10_right.j0 k false a0_0 (a0_0 == 2) a0_0 a0_1 a0_2 a0_3 a0_4 a0_5 a0_6 a0_7 a0_8 a0_9 a0_10 a0_11 a0_12 a0_13 a0_14 a0_15 a0_0 0 0 0 0 0 0 0 false false 0 0 0 0 0 0) else (paybooklaw10_right.j0 k false a0_0 (a0_0 == 3) a0_0 a0_1 a0_2 a0_3 a0_4 a0_5 a0_6 a0_7 a0_8 a0_9 a0_10 a0_11 a0_12 a0_13 a0_14 a0_15 a0_0 0 0 0 0 0 0 0 false false 0 0 0 0 0 0))) = some r := h
 clear h
 by_cases c2 : a0_0 = 1
 ·rw [if_pos c2] at H
  have c2b0 : (a0_0 == 1) = true := beq_iff_eq.mpr c2
  have c2b1 : (a0_0 != 1) = false := bne_eq_false_iff_eq.mpr c2
  clear c2
  by_cases c3 : (a0_1 == 0 && (a0_2 == 0 && (a0_3 == 0 && ((a0_10 == 0 && (a0_11 == 0 && (a0_12 == 0 && (a0_13 == 0 && (a0_14 == 0 && (a0_15 == 0)))))))))) = true
  ·rw [if_pos c3] at H
   have c3b0 : (a0_1 == 0 && (a0_2 == 0 && (a0_3 == 0 && ((a0_10 == 0 && (a0_11 == 0 && (a0_12 == 0 && (a0_13 == 0 && (a0_14 == 0 && (a0_15 == 0)))))))))) = true := c3
   (try (have c3b1 : decide (a0_1 = 0 && (a0_2 == 0 && (a0_3 == 0 && ((a0_10 == 0 && (a0_11 == 0 && (a0_12 == 0 && (a0_13 == 0 && (a0_14 == 0 && (a0_15 == 0)))))))))) = true := by simpa using c3))
   (try (have c3b2 : (a0_1 == 0 && (a0_2 == 0 && (a0_3 == 0 && ((a0_10 == 0 && (a0_11 == 0 && (a0_12 == 0 && (a0_13 == 0 && (a0_14 == 0 && (a0_15 == 0)))))))))) = true := by simpa using c3))
   clear c3
   replace H := Option.bind_eq_some_iff.mp H
   obtain ⟨t280, A40, H⟩ := H
   replace H : (some t280) = some r := H
   have A4 := Aside0.mk A40
   clear A40
   obtain rfl := Option.some.inj H
   go_enter Try.func12, Try.ntmps12
   go_wp2_with (first | ((with_reducible refine gate_dst (N := 1) rfl ?_); refine box_event ?hg (N := 1) ?hd (cs := #[.int .u8 a0_0, .int .i64 a0_1, .int .i64 a0_2, .int .i64 a0_3, .int .i64 a0_4, .int .u8 a0_5, .int .i64 a0_6, .int .i64 a0_7, .bool a0_8, .bool a0_9, .int .u8 a0_10, .int .i64 a0_11, .int .i64 a0_12, .int .i64 a0_13, .int .i64 a0_14, .int .u8 a0_15]) (t := 27) ?hr ?_; (case hd => rfl); (case hg => rfl); (case hr => first | (go_simp; done) | (go_simp; rfl)); intro gb278 hg w5 hbox hb; have n0_ := Aside0.mk (below_step (by repeat (first | (with_reducible first | exact HB.out | apply kL | apply kM | apply kE) | exact HB.out)) hb); have n1_ := Aside0.mk (hbox); have n2_ := Aside0.mk ((by rw [hg]; exact (below_size (by repeat (first | (with_reducible first | exact HB.out | apply kL | apply kM | apply kE) | exact HB.out))) : w.heap.size ≤ gb278)); have n3_ := Aside0.mk ((by rw [hg]; exact (below_size (by repeat (first | (with_reducible first | exact HB.out | apply kL | apply kM | apply kE) | exact HB.out))) : w.heap.size ≤ gb278)); clear HB; have HB := n0_; have BK278 := n1_; have GW278 := n2_; have GE278 := n3_; clear n0_ n1_ n2_ n3_; clear hb hbox hg; obtain ⟨hcz6_0, hcz6_1, hcz6_2, hcz6_3, hcz6_4, hcz6_5, hcz6_6, hcz6_7, hcz6_8, hcz6_9, hcz6_10, hcz6_11, hcz6_12, hcz6_13, hcz6_14, hcz6_15, hfz6_0, hfz6_1, hfz6_2, hfz6_3, hfz6_4, hfz6_5, hfz6_6, hfz6_7, hfz6_8, hfz6_9, hfz6_10, hfz6_11, hfz6_12, hfz6_13, hfz6_14, hfz6_15⟩ := bxc16 BK278.out) | ((with_reducible refine gate_dst (N := 3) rfl ?_); refine box_event ?hg (N := 3) ?hd (cs := #[.int .u8 0, .int .i64 0, .int .i64 0, .int .i64 0, .int .i64 0, .int .u8 0, .int .i64 0, .int .i64 0, .bool false, .bool false, .int .u8 0, .int .i64 0, .int .i64 0, .int .i64 0, .int .i64 0, .int .u8 0]) (t := 27) ?hr ?_; (case hd => rfl); (case hg => rfl); (case hr => first | (go_simp; done) | (go_simp; rfl)); intro gb279 hg w7 hbox hb; have n0_ := Aside0.mk (blk_below (g := gb278) (o := .cells #[.int .u8 a0_0, .int .i64 a0_1, .int .i64 a0_2, .int .i64 a0_3, .int .i64 a0_4, .int .u8 a0_5, .int .i64 a0_6, .int .i64 a0_7, .bool a0_8, .bool a0_9, .int .u8 a0_10, .int .i64 a0_11, .int .i64 a0_12, .int .i64 a0_13, .int .i64 a0_14, .int .u8 a0_15] 27 (0, 0)) (by (with_reducible repeat (first | refine kN ?_ _ | refine kD ?_ | refine kA ?_ _)); exact BK278.out) hb); have n1_ := Aside0.mk (below_step (by repeat (first | (with_reducible first | exact HB.out | apply kL | apply kM | apply kE | refine kS ?_ GE278.out) | exact HB.out)) hb); have n2_ := Aside0.mk (hbox); have n3_ := Aside0.mk ((by rw [hg]; exact (below_size (by repeat (first | (with_reducible first | exact HB.out | apply kL | apply kM | apply kE | refine kS ?_ GE278.out) | exact HB.out))) : w.heap.size ≤ gb279)); have n4_ := Aside0.mk ((by rw [hg]; exact (below_size (by repeat (first | (with_reducible first | exact HB.out | apply kL | apply kM | apply kE | refine kS ?_ GE278.out) | exact HB.out))) : w.heap.size ≤ gb279)); have n5_ := Aside0.mk ((by rw [hg]; exact Nat.ne_of_lt (blk_lt (g := gb278) (o := .cells #[.int .u8 a0_0, .int .i64 a0_1, .int .i64 a0_2, .int .i64 a0_3, .int .i64 a0_4, .int .u8 a0_5, .int .i64 a0_6, .int .i64 a0_7, .bool a0_8, .bool a0_9, .int .u8 a0_10, .int .i64 a0_11, .int .i64 a0_12, .int .i64 a0_13, .int .i64 a0_14, .int .u8 a0_15] 27 (0, 0)) (by (with_reducible repeat (first | refine kN ?_ _ | refine kD ?_ | refine kA ?_ _)); exact BK278.out)) : gb278 ≠ gb279)); have n6_ := Aside0.mk ((by rw [hg]; exact Nat.ne_of_gt (blk_lt (g := gb278) (o := .cells #[.int .u8 a0_0, .int .i64 a0_1, .int .i64 a0_2, .int .i64 a0_3, .int .i64 a0_4, .int .u8 a0_5, .int .i64 a0_6, .int .i64 a0_7, .bool a0_8, .bool a0_9, .int .u8 a0_10, .int .i64 a0_11, .int .i64 a0_12, .int .i64 a0_13, .int .i64 a0_14, .int .u8 a0_15] 27 (0, 0)) (by (with_reducible repeat (first | refine kN ?_ _ | refine kD ?_ | refine kA ?_ _)); exact BK278.out)) : gb279 ≠ gb278)); clear BK278; clear HB; have BK278 := n0_; have HB := n1_; have BK279 := n2_; have GW279 := n3_; have GE279 := n4_; have NB278_279 := n5_; have NB279_278 := n6_; clear n0_ n1_ n2_ n3_ n4_ n5_ n6_; clear hb hbox hg; have hnb8 := NB279_278.out; have hnc8 := NB278_279.out; obtain ⟨hcz9_0, hcz9_1, hcz9_2, hcz9_3, hcz9_4, hcz9_5, hcz9_6, hcz9_7, hcz9_8, hcz9_9, hcz9_10, hcz9_11, hcz9_12, hcz9_13, hcz9_14, hcz9_15, hfz9_0, hfz9_1, hfz9_2, hfz9_3, hfz9_4, hfz9_5, hfz9_6, hfz9_7, hfz9_8, hfz9_9, hfz9_10, hfz9_11, hfz9_12, hfz9_13, hfz9_14, hfz9_15⟩ := bxc16 BK279.out) | ((with_reducible refine gate_store (t := 27) (p := 3) rfl ?_); refine rec_event (t := 27) (p := 3) (v := ?vo_w10) (g := gb279) (t' := 27) #[.int .u8 0, .int .i64 0, .int .i64 0, .int .i64 0, .int .i64 0, .int .u8 0, .int .i64 0, .int .i64 0, .bool false, .bool false, .int .u8 0, .int .i64 0, .int .i64 0, .int .i64 0, .int .i64 0, .int .u8 0] #[.int .u8 a0_0, .int .i64 0, .int .i64 0, .int .i64 0, .int .i64 0, .int .u8 0, .int .i64 0, .int .i64 0, .bool false, .bool false, .int .u8 0, .int .i64 0, .int .i64 0, .int .i64 0, .int .i64 0, .int .u8 0] ?hg ?ho ?hn ?hx ?hy ?hb (by rfl) (by kernel_rfl) (by kernel_rfl) ?_; (case ho => rfl); (case hg => rfl); (case hn => rfl); (case hx => rfl); (case hy => rfl); (case hb => exact BK279.out); intro w10 hblk hoth hbel; have n0_ : Aside0 (w10.heap[gb278]? = some (.cells #[.int .u8 a0_0, .int .i64 a0_1, .int .i64 a0_2, .int .i64 a0_3, .int .i64 a0_4, .int .u8 a0_5, .int .i64 a0_6, .int .i64 a0_7, .bool a0_8, .bool a0_9, .int .u8 a0_10, .int .i64 a0_11, .int .i64 a0_12, .int .i64 a0_13, .int .i64 a0_14, .int .u8 a0_15] 27 (0, 0))) := ⟨(hoth gb278 NB278_279.out).trans (by (with_reducible repeat (first | refine kN ?_ _ | refine kD ?_ | refine kA ?_ _)); exact BK278.out)⟩; have n1_ : Aside0 (w10.heap[gb279]? = some (.cells #[.int .u8 a0_0, .int .i64 0, .int .i64 0, .int .i64 0, .int .i64 0, .int .u8 0, .int .i64 0, .int .i64 0, .bool false, .bool false, .int .u8 0, .int .i64 0, .int .i64 0, .int .i64 0, .int .i64 0, .int .u8 0] 27 (0, 0))) := ⟨hblk⟩; have n2_ : Aside0 (Below w.heap.size w w10) := ⟨Below.trans (by repeat (first | (with_reducible first | exact HB.out | apply kL | apply kM | apply kE | refine kS ?_ GE278.out | refine kS ?_ GE279.out) | exact HB.out)) (hbel _ GE279.out)⟩; clear hblk hoth hbel; clear BK278; clear BK279; clear HB; have BK278 := n0_; have BK279 := n1_; have HB := n2_; clear n0_ n1_ n2_; obtain ⟨hcz11_0, hcz11_1, hcz11_2, hcz11_3, hcz11_4, hcz11_5, hcz11_6, hcz11_7, hcz11_8, hcz11_9, hcz11_10, hcz11_11, hcz11_12, hcz11_13, hcz11_14, hcz11_15, hfz11_0, hfz11_1, hfz11_2, hfz11_3, hfz11_4, hfz11_5, hfz11_6, hfz11_7, hfz11_8, hfz11_9, hfz11_10, hfz11_11, hfz11_12, hfz11_13, hfz11_14, hfz11_15⟩ := bxc16 BK278.out; obtain ⟨hcz12_0, hcz12_1, hcz12_2, hcz12_3, hcz12_4, hcz12_5, hcz12_6, hcz12_7, hcz12_8, hcz12_9, hcz12_10, hcz12_11, hcz12_12, hcz12_13, hcz12_14, hcz12_15, hfz12_0, hfz12_1, hfz12_2, hfz12_3, hfz12_4, hfz12_5, hfz12_6, hfz12_7, hfz12_8, hfz12_9, hfz12_10, hfz12_11, hfz12_12, hfz12_13, hfz12_14, hfz12_15⟩ := bxc16 BK279.out) | ((with_reducible refine gate_dst (N := 15) rfl ?_); refine wpList_load_row rfl 27 (.tmp 1) rfl gb278 rfl 27 #[.int .u8 a0_0, .int .i64 a0_1, .int .i64 a0_2, .int .i64 a0_3, .int .i64 a0_4, .int .u8 a0_5, .int .i64 a0_6, .int .i64 a0_7, .bool a0_8, .bool a0_9, .int .u8 a0_10, .int .i64 a0_11, .int .i64 a0_12, .int .i64 a0_13, .int .i64 a0_14, .int .u8 a0_15] (0, 0) _ (by (with_reducible repeat (first | refine kN ?_ _ | refine kD ?_ | refine kA ?_ _ | refine kR ?_ NB278_279.out _)); (with_reducible repeat (first | refine kN ?_ _ | refine kD ?_ | refine kA ?_ _)); exact BK278.out) Try.underlying27 rfl (by kernel_rfl) ?_) | ((with_reducible refine gate_dst (N := 16) rfl ?_); refine wpList_load_row rfl 27 (.tmp 3) rfl gb279 rfl 27 #[.int .u8 a0_0, .int .i64 0, .int .i64 0, .int .i64 0, .int .i64 a0_4, .int .u8 a0_5, .int .i64 a0_6, .int .i64 a0_7, .bool a0_8, .bool a0_9, .int .u8 0, .int .i64 0, .int .i64 0, .int .i64 0, .int .i64 0, .int .u8 0] (0, 0) _ (by (with_reducible repeat (first | refine kN ?_ _ | refine kD ?_ | refine kA ?_ _)); refine bxp16_9 (o := .bool false) ?_; (with_reducible repeat (first | refine kN ?_ _ | refine kD ?_ | refine kA ?_ _)); refine bxp16_8 (o := .bool false) ?_; (with_reducible repeat (first | refine kN ?_ _ | refine kD ?_ | refine kA ?_ _)); refine bxp16_7 (o := .int .i64 0) ?_; (with_reducible repeat (first | refine kN ?_ _ | refine kD ?_ | refine kA ?_ _)); refine bxp16_6 (o := .int .i64 0) ?_; (with_reducible repeat (first | refine kN ?_ _ | refine kD ?_ | refine kA ?_ _)); refine bxp16_5 (o := .int .u8 0) ?_; (with_reducible repeat (first | refine kN ?_ _ | refine kD ?_ | refine kA ?_ _)); refine bxp16_4 (o := .int .i64 0) ?_; (with_reducible repeat (first | refine kN ?_ _ | refine kD ?_ | refine kA ?_ _)); exact BK279.out) Try.underlying27 rfl (by kernel_rfl) ?_) | ((with_reducible refine gate_callee (f := 28) rfl ?_); refine goesL_ (some 20) rfl rfl Try.func28 (by kernel_rfl) rfl #[.agg #[.int .i64 a0_4, .int .u8 a0_5, .int .i64 a0_6, .int .i64 a0_7, .bool a0_8, .bool a0_9]] rfl (by (try simp only [List.map_toArray, List.map_cons, List.map_nil]); first | done | rfl | (simp only [List.length_drop, List.length_take]; rfl)) ?_; (with_reducible refine (plan_Right.calls k a0_4 a0_5 a0_6 a0_7 a0_8 a0_9 t280 _ A4.out).mono ?_); rintro e w13 ⟨rfl, hb⟩; refine ⟨_, rfl, ?_⟩; have n0_ := Aside0.mk (blk_below (g := gb278) (o := .cells #[.int .u8 a0_0, .int .i64 a0_1, .int .i64 a0_2, .int .i64 a0_3, .int .i64 a0_4, .int .u8 a0_5, .int .i64 a0_6, .int .i64 a0_7, .bool a0_8, .bool a0_9, .int .u8 a0_10, .int .i64 a0_11, .int .i64 a0_12, .int .i64 a0_13, .int .i64 a0_14, .int .u8 a0_15] 27 (0, 0)) (by (with_reducible repeat (first | refine kN ?_ _ | refine kD ?_ | refine kA ?_ _ | refine kR ?_ NB278_279.out _)); (with_reducible repeat (first | refine kN ?_ _ | refine kD ?_ | refine kA ?_ _)); exact BK278.out) hb); have n1_ := Aside0.mk (blk_below (g := gb279) (o := .cells #[.int .u8 a0_0, .int .i64 0, .int .i64 0, .int .i64 0, .int .i64 a0_4, .int .u8 a0_5, .int .i64 a0_6, .int .i64 a0_7, .bool a0_8, .bool a0_9, .int .u8 0, .int .i64 0, .int .i64 0, .int .i64 0, .int .i64 0, .int .u8 0] 27 (0, 0)) (by (with_reducible repeat (first | refine kN ?_ _ | refine kD ?_ | refine kA ?_ _)); refine bxp16_9 (o := .bool false) ?_; (with_reducible repeat (first | refine kN ?_ _ | refine kD ?_ | refine kA ?_ _)); refine bxp16_8 (o := .bool false) ?_; (with_reducible repeat (first | refine kN ?_ _ | refine kD ?_ | refine kA ?_ _)); refine bxp16_7 (o := .int .i64 0) ?_; (with_reducible repeat (first | refine kN ?_ _ | refine kD ?_ | refine kA ?_ _)); refine bxp16_6 (o := .int .i64 0) ?_; (with_reducible repeat (first | refine kN ?_ _ | refine kD ?_ | refine kA ?_ _)); refine bxp16_5 (o := .int .u8 0) ?_; (with_reducible repeat (first | refine kN ?_ _ | refine kD ?_ | refine kA ?_ _)); refine bxp16_4 (o := .int .i64 0) ?_; (with_reducible repeat (first | refine kN ?_ _ | refine kD ?_ | refine kA ?_ _)); exact BK279.out) hb); have n2_ := Aside0.mk (below_step (by repeat (first | (with_reducible first | exact HB.out | apply kL | apply kM | apply kE | refine kS ?_ GE278.out | refine kS ?_ GE279.out) | exact HB.out)) hb); clear BK278; clear BK279; clear HB; have BK278 := n0_; have BK279 := n1_; have HB := n2_; clear n0_ n1_ n2_; (try clear hb); (try clear hb2); (try clear hk); (try clear hi)))
   go_ret
   exact ⟨by first | rfl | (simp [errW_none, errW_some] <;> rfl) | (simp [*, errW_none, errW_some] <;> rfl), by repeat (first | (with_reducible first | exact HB.out | apply kL | apply kM | apply kE | refine kS ?_ GE278.out | refine kS ?_ GE279.out) | exact HB.out)⟩
  ·rw [if_neg c3] at H
   have c3b0 : (a0_1 == 0 && (a0_2 == 0 && (a0_3 == 0 && ((a0_10 == 0 && (a0_11 == 0 && (a0_12 == 0 && (a0_13 == 0 && (a0_14 == 0 && (a0_15 == 0)))))))))) = false := by simpa using c3
   (try (have c3b1 : decide (a0_1 = 0 && (a0_2 == 0 && (a0_3 == 0 && ((a0_10 == 0 && (a0_11 == 0 && (a0_12 == 0 && (a0_13 == 0 && (a0_14 == 0 && (a0_15 == 0)))))))))) = false := by simpa using c3))
   (try (have c3b2 : (a0_1 == 0 && (a0_2 == 0 && (a0_3 == 0 && ((a0_10 == 0 && (a0_11 == 0 && (a0_12 == 0 && (a0_13 == 0 && (a0_14 == 0 && (a0_15 == 0)))))))))) = false := by simpa using c3))
   (try (have c3b3 : ¬ (a0_1 = 0 && (a0_2 == 0 && (a0_3 == 0 && ((a0_10 == 0 && (a0_11 == 0 && (a0_12 == 0 && (a0_13 == 0 && (a0_14 == 0 && (a0_15 == 0)))))))))) := by simpa using c3))
   clear c3
   obtain rfl := Option.some.inj H
   go_enter Try.func12, Try.ntmps12
   go_wp2_with (first | ((with_reducible refine gate_dst (N := 1) rfl ?_); refine box_event ?hg (N := 1) ?hd (cs := #[.int .u8 a0_0, .int .i64 a0_1, .int .i64 a0_2, .int .i64 a0_3, .int .i64 a0_4, .int .u8 a0_5, .int .i64 a0_6, .int .i64 a0_7, .bool a0_8, .bool a0_9, .int .u8 a0_10, .int .i64 a0_11, .int .i64 a0_12, .int .i64 a0_13, .int .i64 a0_14, .int .u8 a0_15]) (t := 27) ?hr ?_; (case hd => rfl); (case hg => rfl); (case hr => first | (go_simp; done) | (go_simp; rfl)); intro gb278 hg w14 hbox hb; have n0_ := Aside0.mk (below_step (by repeat (first | (with_reducible first | exact HB.out | apply kL | apply kM | apply kE) | exact HB.out)) hb); have n1_ := Aside0.mk (hbox); have n2_ := Aside0.mk ((by rw [hg]; exact (below_size (by repeat (first | (with_reducible first | exact HB.out | apply kL | apply kM | apply kE) | exact HB.out))) : w.heap.size ≤ gb278)); have n3_ := Aside0.mk ((by rw [hg]; exact (below_size (by repeat (first | (with_reducible first | exact HB.out | apply kL | apply kM | apply kE) | exact HB.out))) : w.heap.size ≤ gb278)); clear HB; have HB := n0_; have BK278 := n1_; have GW278 := n2_; have GE278 := n3_; clear n0_ n1_ n2_ n3_; clear hb hbox hg; obtain ⟨hcz15_0, hcz15_1, hcz15_2, hcz15_3, hcz15_4, hcz15_5, hcz15_6, hcz15_7, hcz15_8, hcz15_9, hcz15_10, hcz15_11, hcz15_12, hcz15_13, hcz15_14, hcz15_15, hfz15_0, hfz15_1, hfz15_2, hfz15_3, hfz15_4, hfz15_5, hfz15_6, hfz15_7, hfz15_8, hfz15_9, hfz15_10, hfz15_11, hfz15_12, hfz15_13, hfz15_14, hfz15_15⟩ := bxc16 BK278.out) | ((with_reducible refine gate_dst (N := 3) rfl ?_); refine box_event ?hg (N := 3) ?hd (cs := #[.int .u8 0, .int .i64 0, .int .i64 0, .int .i64 0, .int .i64 0, .int .u8 0, .int .i64 0, .int .i64 0, .bool false, .bool false, .int .u8 0, .int .i64 0, .int .i64 0, .int .i64 0, .int .i64 0, .int .u8 0]) (t := 27) ?hr ?_; (case hd => rfl); (case hg => rfl); (case hr => first | (go_simp; done) | (go_simp; rfl)); intro gb279 hg w16 hbox hb; have n0_ := Aside0.mk (blk_below (g := gb278) (o := .cells #[.int .u8 a0_0, .int .i64 a0_1, .int .i64 a0_2, .int .i64 a0_3, .int .i64 a0_4, .int .u8 a0_5, .int .i64 a0_6, .int .i64 a0_7, .bool a0_8, .bool a0_9, .int .u8 a0_10, .int .i64 a0_11, .int .i64 a0_12, .int .i64 a0_13, .int .i64 a0_14, .int .u8 a0_15] 27 (0, 0)) (by (with_reducible repeat (first | refine kN ?_ _ | refine kD ?_ | refine kA ?_ _)); exact BK278.out) hb); have n1_ := Aside0.mk (below_step (by repeat (first | (with_reducible first | exact HB.out | apply kL | apply kM | apply kE | refine kS ?_ GE278.out) | exact HB.out)) hb); have n2_ := Aside0.mk (hbox); have n3_ := Aside0.mk ((by rw [hg]; exact (below_size (by repeat (first | (with_reducible first | exact HB.out | apply kL | apply kM | apply kE | refine kS ?_ GE278.out) | exact HB.out))) : w.heap.size ≤ gb279)); have n4_ := Aside0.mk ((by rw [hg]; exact (below_size (by repeat (first | (with_reducible first | exact HB.out | apply kL | apply kM | apply kE | refine kS ?_ GE278.out) | exact HB.out))) : w.heap.size ≤ gb279)); have n5_ := Aside0.mk ((by rw [hg]; exact Nat.ne_of_lt (blk_lt (g := gb278) (o := .cells #[.int .u8 a0_0, .int .i64 a0_1, .int .i64 a0_2, .int .i64 a0_3, .int .i64 a0_4, .int .u8 a0_5, .int .i64 a0_6, .int .i64 a0_7, .bool a0_8, .bool a0_9, .int .u8 a0_10, .int .i64 a0_11, .int .i64 a0_12, .int .i64 a0_13, .int .i64 a0_14, .int .u8 a0_15] 27 (0, 0)) (by (with_reducible repeat (first | refine kN ?_ _ | refine kD ?_ | refine kA ?_ _)); exact BK278.out)) : gb278 ≠ gb279)); have n6_ := Aside0.mk ((by rw [hg]; exact Nat.ne_of_gt (blk_lt (g := gb278) (o := .cells #[.int .u8 a0_0, .int .i64 a0_1, .int .i64 a0_2, .int .i64 a0_3, .int .i64 a0_4, .int .u8 a0_5, .int .i64 a0_6, .int .i64 a0_7, .bool a0_8, .bool a0_9, .int .u8 a0_10, .int .i64 a0_11, .int .i64 a0_12, .int .i64 a0_13, .int .i64 a0_14, .int .u8 a0_15] 27 (0, 0)) (by (with_reducible repeat (first | refine kN ?_ _ | refine kD ?_ | refine kA ?_ _)); exact BK278.out)) : gb279 ≠ gb278)); clear BK278; clear HB; have BK278 := n0_; have HB := n1_; have BK279 := n2_; have GW279 := n3_; have GE279 := n4_; have NB278_279 := n5_; have NB279_278 := n6_; clear n0_ n1_ n2_ n3_ n4_ n5_ n6_; clear hb hbox hg; have hnb17 := NB279_278.out; have hnc17 := NB278_279.out; obtain ⟨hcz18_0, hcz18_1, hcz18_2, hcz18_3, hcz18_4, hcz18_5, hcz18_6, hcz18_7, hcz18_8, hcz18_9, hcz18_10, hcz18_11, hcz18_12, hcz18_13, hcz18_14, hcz18_15, hfz18_0, hfz18_1, hfz18_2, hfz18_3, hfz18_4, hfz18_5, hfz18_6, hfz18_7, hfz18_8, hfz18_9, hfz18_10, hfz18_11, hfz18_12, hfz18_13, hfz18_14, hfz18_15⟩ := bxc16 BK279.out) | ((with_reducible refine gate_store (t := 27) (p := 3) rfl ?_); refine rec_event (t := 27) (p := 3) (v := ?vo_w19) (g := gb279) (t' := 27) #[.int .u8 0, .int .i64 0, .int .i64 0, .int .i64 0, .int .i64 0, .int .u8 0, .int .i64 0, .int .i64 0, .bool false, .bool false, .int .u8 0, .int .i64 0, .int .i64 0, .int .i64 0, .int .i64 0, .int .u8 0] #[.int .u8 a0_0, .int .i64 0, .int .i64 0, .int .i64 0, .int .i64 0, .int .u8 0, .int .i64 0, .int .i64 0, .bool false, .bool false, .int .u8 0, .int .i64 0, .int .i64 0, .int .i64 0, .int .i64 0, .int .u8 0] ?hg ?ho ?hn ?hx ?hy ?hb (by rfl) (by kernel_rfl) (by kernel_rfl) ?_; (case ho => rfl); (case hg => rfl); (case hn => rfl); (case hx => rfl); (case hy => rfl); (case hb => exact BK279.out); intro w19 hblk hoth hbel; have n0_ : Aside0 (w19.heap[gb278]? = some (.cells #[.int .u8 a0_0, .int .i64 a0_1, .int .i64 a0_2, .int .i64 a0_3, .int .i64 a0_4, .int .u8 a0_5, .int .i64 a0_6, .int .i64 a0_7, .bool a0_8, .bool a0_9, .int .u8 a0_10, .int .i64 a0_11, .int .i64 a0_12, .int .i64 a0_13, .int .i64 a0_14, .int .u8 a0_15] 27 (0, 0))) := ⟨(hoth gb278 NB278_279.out).trans (by (with_reducible repeat (first | refine kN ?_ _ | refine kD ?_ | refine kA ?_ _)); exact BK278.out)⟩; have n1_ : Aside0 (w19.heap[gb279]? = some (.cells #[.int .u8 a0_0, .int .i64 0, .int .i64 0, .int .i64 0, .int .i64 0, .int .u8 0, .int .i64 0, .int .i64 0, .bool false, .bool false, .int .u8 0, .int .i64 0, .int .i64 0, .int .i64 0, .int .i64 0, .int .u8 0] 27 (0, 0))) := ⟨hblk⟩; have n2_ : Aside0 (Below w.heap.size w w19) := ⟨Below.trans (by repeat (first | (with_reducible first | exact HB.out | apply kL | apply kM | apply kE | refine kS ?_ GE278.out | refine kS ?_ GE279.out) | exact HB.out)) (hbel _ GE279.out)⟩; clear hblk hoth hbel; clear BK278; clear BK279; clear HB; have BK278 := n0_; have BK279 := n1_; have HB := n2_; clear n0_ n1_ n2_; obtain ⟨hcz20_0, hcz20_1, hcz20_2, hcz20_3, hcz20_4, hcz20_5, hcz20_6, hcz20_7, hcz20_8, hcz20_9, hcz20_10, hcz20_11, hcz20_12, hcz20_13, hcz20_14, hcz20_15, hfz20_0, hfz20_1, hfz20_2, hfz20_3, hfz20_4, hfz20_5, hfz20_6, hfz20_7, hfz20_8, hfz20_9, hfz20_10, hfz20_11, hfz20_12, hfz20_13, hfz20_14, hfz20_15⟩ := bxc16 BK278.out; obtain ⟨hcz21_0, hcz21_1, hcz21_2, hcz21_3, hcz21_4, hcz21_5, hcz21_6, hcz21_7, hcz21_8, hcz21_9, hcz21_10, hcz21_11, hcz21_12, hcz21_13, hcz21_14, hcz21_15, hfz21_0, hfz21_1, hfz21_2, hfz21_3, hfz21_4, hfz21_5, hfz21_6, hfz21_7, hfz21_8, hfz21_9, hfz21_10, hfz21_11, hfz21_12, hfz21_13, hfz21_14, hfz21_15⟩ := bxc16 BK279.out) | ((with_reducible refine gate_dst (N := 15) rfl ?_); refine wpList_load_row rfl 27 (.tmp 1) rfl gb278 rfl 27 #[.int .u8 a0_0, .int .i64 a0_1, .int .i64 a0_2, .int .i64 a0_3, .int .i64 a0_4, .int .u8 a0_5, .int .i64 a0_6, .int .i64 a0_7, .bool a0_8, .bool a0_9, .int .u8 a0_10, .int .i64 a0_11, .int .i64 a0_12, .int .i64 a0_13, .int .i64 a0_14, .int .u8 a0_15] (0, 0) _ (by (with_reducible repeat (first | refine kN ?_ _ | refine kD ?_ | refine kA ?_ _ | refine kR ?_ NB278_279.out _)); (with_reducible repeat (first | refine kN ?_ _ | refine kD ?_ | refine kA ?_ _)); exact BK278.out) Try.underlying27 rfl (by kernel_rfl) ?_) | ((with_reducible refine gate_dst (N := 16) rfl ?_); refine wpList_load_row rfl 27 (.tmp 3) rfl gb279 rfl 27 #[.int .u8 a0_0, .int .i64 0, .int .i64 0, .int .i64 0, .int .i64 a0_4, .int .u8 a0_5, .int .i64 a0_6, .int .i64 a0_7, .bool a0_8, .bool a0_9, .int .u8 0, .int .i64 0, .int .i64 0, .int .i64 0, .int .i64 0, .int .u8 0] (0, 0) _ (by (with_reducible repeat (first | refine kN ?_ _ | refine kD ?_ | refine kA ?_ _)); refine bxp16_9 (o := .bool false) ?_; (with_reducible repeat (first | refine kN ?_ _ | refine kD ?_ | refine kA ?_ _)); refine bxp16_8 (o := .bool false) ?_; (with_reducible repeat (first | refine kN ?_ _ | refine kD ?_ | refine kA ?_ _)); refine bxp16_7 (o := .int .i64 0) ?_; (with_reducible repeat (first | refine kN ?_ _ | refine kD ?_ | refine kA ?_ _)); refine bxp16_6 (o := .int .i64 0) ?_; (with_reducible repeat (first | refine kN ?_ _ | refine kD ?_ | refine kA ?_ _)); refine bxp16_5 (o := .int .u8 0) ?_; (with_reducible repeat (first | refine kN ?_ _ | refine kD ?_ | refine kA ?_ _)); refine bxp16_4 (o := .int .i64 0) ?_; (with_reducible repeat (first | refine kN ?_ _ | refine kD ?_ | refine kA ?_ _)); exact BK279.out) Try.underlying27 rfl (by kernel_rfl) ?_))
   go_ret
   exact ⟨by first | rfl | (simp [errW_none, errW_some] <;> rfl) | (simp [*, errW_none, errW_some] <;> rfl), by repeat (first | (with_reducible first | exact HB.out | apply kL | apply kM | apply kE | refine kS ?_ GE278.out | refine kS ?_ GE279.out) | exact HB.out)⟩
 ·rw [if_neg c2] at H
  have c2b0 : (a0_0 == 1) = false := beq_eq_false_iff_ne.mpr c2
  have c2b1 : (a0_0 != 1) = true := bne_iff_ne.mpr c2
  have HC22 := Aside0.mk H
  clear H
  go_enter Try.func12, Try.ntmps12
  go_upto_if 21 with (first | ((with_reducible refine gate_dst (N := 1) rfl ?_); refine box_event ?hg (N := 1) ?hd (cs := #[.int .u8 a0_0, .int .i64 a0_1, .int .i64 a0_2, .int .i64 a0_3, .int .i64 a0_4, .int .u8 a0_5, .int .i64 a0_6, .int .i64 a0_7, .bool a0_8, .bool a0_9, .int .u8 a0_10, .int .i64 a0_11, .int .i64 a0_12, .int .i64 a0_13, .int .i64 a0_14, .int .u8 a0_15]) (t := 27) ?hr ?_; (case hd => rfl); (case hg => rfl); (case hr => first | (go_simp; done) | (go_simp; rfl)); intro gb278 hg w23 hbox hb; have n0_ := Aside0.mk (below_step (by repeat (first | (with_reducible first | exact HB.out | apply kL | apply kM | apply kE) | exact HB.out)) hb); have n1_ := Aside0.mk (hbox); have n2_ := Aside0.mk ((by rw [hg]; exact (below_size (by repeat (first | (with_reducible first | exact HB.out | apply kL | apply kM | apply kE) | exact HB.out))) : w.heap.size ≤ gb278)); have n3_ := Aside0.mk ((by rw [hg]; exact (below_size (by repeat (first | (with_reducible first | exact HB.out | apply kL | apply kM | apply kE) | exact HB.out))) : w.heap.size ≤ gb278)); clear HB; have HB := n0_; have BK278 := n1_; have GW278 := n2_; have GE278 := n3_; clear n0_ n1_ n2_ n3_; clear hb hbox hg; obtain ⟨hcz24_0, hcz24_1, hcz24_2, hcz24_3, hcz24_4, hcz24_5, hcz24_6, hcz24_7, hcz24_8, hcz24_9, hcz24_10, hcz24_11, hcz24_12, hcz24_13, hcz24_14, hcz24_15, hfz24_0, hfz24_1, hfz24_2, hfz24_3, hfz24_4, hfz24_5, hfz24_6, hfz24_7, hfz24_8, hfz24_9, hfz24_10, hfz24_11, hfz24_12, hfz24_13, hfz24_14, hfz24_15⟩ := bxc16 BK278.out) | ((with_reducible refine gate_dst (N := 3) rfl ?_); refine box_event ?hg (N := 3) ?hd (cs := #[.int .u8 0, .int .i64 0, .int .i64 0, .int .i64 0, .int .i64 0, .int .u8 0, .int .i64 0, .int .i64 0, .bool false, .bool false, .int .u8 0, .int .i64 0, .int .i64 0, .int .i64 0, .int .i64 0, .int .u8 0]) (t := 27) ?hr ?_; (case hd => rfl); (case hg => rfl); (case hr => first | (go_simp; done) | (go_simp; rfl)); intro gb279 hg w25 hbox hb; have n0_ := Aside0.mk (blk_below (g := gb278) (o := .cells #[.int .u8 a0_0, .int .i64 a0_1, .int .i64 a0_2, .int .i64 a0_3, .int .i64 a0_4, .int .u8 a0_5, .int .i64 a0_6, .int .i64 a0_7, .bool a0_8, .bool a0_9, .int .u8 a0_10, .int .i64 a0_11, .int .i64 a0_12, .int .i64 a0_13, .int .i64 a0_14, .int .u8 a0_15] 27 (0, 0)) (by (with_reducible repeat (first | refine kN ?_ _ | refine kD ?_ | refine kA ?_ _)); exact BK278.out) hb); have n1_ := Aside0.mk (below_step (by repeat (first | (with_reducible first | exact HB.out | apply kL | apply kM | apply kE | refine kS ?_ GE278.out) | exact HB.out)) hb); have n2_ := Aside0.mk (hbox); have n3_ := Aside0.mk ((by rw [hg]; exact (below_size (by repeat (first | (with_reducible first | exact HB.out | apply kL | apply kM | apply kE | refine kS ?_ GE278.out) | exact HB.out))) : w.heap.size ≤ gb279)); have n4_ := Aside0.mk ((by rw [hg]; exact (below_size (by repeat (first | (with_reducible first | exact HB.out | apply kL | apply kM | apply kE | refine kS ?_ GE278.out) | exact HB.out))) : w.heap.size ≤ gb279)); have n5_ := Aside0.mk ((by rw [hg]; exact Nat.ne_of_lt (blk_lt (g := gb278) (o := .cells #[.int .u8 a0_0, .int .i64 a0_1, .int .i64 a0_2, .int .i64 a0_3, .int .i64 a0_4, .int .u8 a0_5, .int .i64 a0_6, .int .i64 a0_7, .bool a0_8, .bool a0_9, .int .u8 a0_10, .int .i64 a0_11, .int .i64 a0_12, .int .i64 a0_13, .int .i64 a0_14, .int .u8 a0_15] 27 (0, 0)) (by (with_reducible repeat (first | refine kN ?_ _ | refine kD ?_ | refine kA ?_ _)); exact BK278.out)) : gb278 ≠ gb279)); have n6_ := Aside0.mk ((by rw [hg]; exact Nat.ne_of_gt (blk_lt (g := gb278) (o := .cells #[.int .u8 a0_0, .int .i64 a0_1, .int .i64 a0_2, .int .i64 a0_3, .int .i64 a0_4, .int .u8 a0_5, .int .i64 a0_6, .int .i64 a0_7, .bool a0_8, .bool a0_9, .int .u8 a0_10, .int .i64 a0_11, .int .i64 a0_12, .int .i64 a0_13, .int .i64 a0_14, .int .u8 a0_15] 27 (0, 0)) (by (with_reducible repeat (first | refine kN ?_ _ | refine kD ?_ | refine kA ?_ _)); exact BK278.out)) : gb279 ≠ gb278)); clear BK278; clear HB; have BK278 := n0_; have HB := n1_; have BK279 := n2_; have GW279 := n3_; have GE279 := n4_; have NB278_279 := n5_; have NB279_278 := n6_; clear n0_ n1_ n2_ n3_ n4_ n5_ n6_; clear hb hbox hg; have hnb26 := NB279_278.out; have hnc26 := NB278_279.out; obtain ⟨hcz27_0, hcz27_1, hcz27_2, hcz27_3, hcz27_4, hcz27_5, hcz27_6, hcz27_7, hcz27_8, hcz27_9, hcz27_10, hcz27_11, hcz27_12, hcz27_13, hcz27_14, hcz27_15, hfz27_0, hfz27_1, hfz27_2, hfz27_3, hfz27_4, hfz27_5, hfz27_6, hfz27_7, hfz27_8, hfz27_9, hfz27_10, hfz27_11, hfz27_12, hfz27_13, hfz27_14, hfz27_15⟩ := bxc16 BK279.out) | ((with_reducible refine gate_store (t := 27) (p := 3) rfl ?_); refine rec_event (t := 27) (p := 3) (v := ?vo_w28) (g := gb279) (t' := 27) #[.int .u8 0, .int .i64 0, .int .i64 0, .int .i64 0, .int .i64 0, .int .u8 0, .int .i64 0, .int .i64 0, .bool false, .bool false, .int .u8 0, .int .i64 0, .int .i64 0, .int .i64 0, .int .i64 0, .int .u8 0] #[.int .u8 a0_0, .int .i64 0, .int .i64 0, .int .i64 0, .int .i64 0, .int .u8 0, .int .i64 0, .int .i64 0, .bool false, .bool false, .int .u8 0, .int .i64 0, .int .i64 0, .int .i64 0, .int .i64 0, .int .u8 0] ?hg ?ho ?hn ?hx ?hy ?hb (by rfl) (by kernel_rfl) (by kernel_rfl) ?_; (case ho => rfl); (case hg => rfl); (case hn => rfl); (case hx => rfl); (case hy => rfl); (case hb => exact BK279.out); intro w28 hblk hoth hbel; have n0_ : Aside0 (w28.heap[gb278]? = some (.cells #[.int .u8 a0_0, .int .i64 a0_1, .int .i64 a0_2, .int .i64 a0_3, .int .i64 a0_4, .int .u8 a0_5, .int .i64 a0_6, .int .i64 a0_7, .bool a0_8, .bool a0_9, .int .u8 a0_10, .int .i64 a0_11, .int .i64 a0_12, .int .i64 a0_13, .int .i64 a0_14, .int .u8 a0_15] 27 (0, 0))) := ⟨(hoth gb278 NB278_279.out).trans (by (with_reducible repeat (first | refine kN ?_ _ | refine kD ?_ | refine kA ?_ _)); exact BK278.out)⟩; have n1_ : Aside0 (w28.heap[gb279]? = some (.cells #[.int .u8 a0_0, .int .i64 0, .int .i64 0, .int .i64 0, .int .i64 0, .int .u8 0, .int .i64 0, .int .i64 0, .bool false, .bool false, .int .u8 0, .int .i64 0, .int .i64 0, .int .i64 0, .int .i64 0, .int .u8 0] 27 (0, 0))) := ⟨hblk⟩; have n2_ : Aside0 (Below w.heap.size w w28) := ⟨Below.trans (by repeat (first | (with_reducible first | exact HB.out | apply kL | apply kM | apply kE | refine kS ?_ GE278.out | refine kS ?_ GE279.out) | exact HB.out)) (hbel _ GE279.out)⟩; clear hblk hoth hbel; clear BK278; clear BK279; clear HB; have BK278 := n0_; have BK279 := n1_; have HB := n2_; clear n0_ n1_ n2_; obtain ⟨hcz29_0, hcz29_1, hcz29_2, hcz29_3, hcz29_4, hcz29_5, hcz29_6, hcz29_7, hcz29_8, hcz29_9, hcz29_10, hcz29_11, hcz29_12, hcz29_13, hcz29_14, hcz29_15, hfz29_0, hfz29_1, hfz29_2, hfz29_3, hfz29_4, hfz29_5, hfz29_6, hfz29_7, hfz29_8, hfz29_9, hfz29_10, hfz29_11, hfz29_12, hfz29_13, hfz29_14, hfz29_15⟩ := bxc16 BK278.out))
  (try simp only [Act.put, List.setIfInBounds_toArray, List.set_cons_zero, List.set_cons_succ])
  go_cut [21] (fun v21 wc => ∃ (kq : Nat) (x21_21 : Bool), v21 = .bool x21_21 ∧ Aside0 (paybooklaw10_right.j0 kq false a0_0 x21_21 a0_0 a0_1 a0_2 a0_3 a0_4 a0_5 a0_6 a0_7 a0_8 a0_9 a0_10 a0_11 a0_12 a0_13 a0_14 a0_15 a0_0 0 0 0 0 0 0 0 false false 0 0 0 0 0 0 = some r) ∧ Aside0 (kq ≤ k) ∧ Aside0 (wc.heap[gb278]? = some (.cells #[.int .u8 a0_0, .int .i64 a0_1, .int .i64 a0_2, .int .i64 a0_3, .int .i64 a0_4, .int .u8 a0_5, .int .i64 a0_6, .int .i64 a0_7, .bool a0_8, .bool a0_9, .int .u8 a0_10, .int .i64 a0_11, .int .i64 a0_12, .int .i64 a0_13, .int .i64 a0_14, .int .u8 a0_15] 27 (0, 0))) ∧ Aside0 (wc.heap[gb279]? = some (.cells #[.int .u8 a0_0, .int .i64 0, .int .i64 0, .int .i64 0, .int .i64 0, .int .u8 0, .int .i64 0, .int .i64 0, .bool false, .bool false, .int .u8 0, .int .i64 0, .int .i64 0, .int .i64 0, .int .i64 0, .int .u8 0] 27 (0, 0))) ∧ Aside0 (Below w.heap.size w wc))
  case first =>
   have H := HC22.out
   clear HC22
   by_cases c30 : a0_0 = 2
   ·rw [if_pos c30] at H
    have c30b0 : (a0_0 == 2) = true := beq_iff_eq.mpr c30
    have c30b1 : (a0_0 != 2) = false := bne_eq_false_iff_eq.mpr c30
    clear c30
    (first | (generalize hg_ : (a0_0 == 2) = bg_ at *; subst c30b0; have c30b0 := hg_; clear hg_) | rw [c30b0] | (simp only [i64_w, i32_w]; rw [c30b0]) | skip)
    have H' := Aside0.mk H
    clear H
    go_wp2
    go_meet
    case rel => exact ⟨_, ((a0_0 == 2)), (by first | rfl | (simp; done) | (simp [*]; done)), (by first | (with_reducible exact H') | (simp only [*]; with_reducible exact H') | exact H'), ⟨by first | omega | exact Nat.le_refl _⟩, ⟨by (with_reducible repeat (first | refine kN ?_ _ | refine kD ?_ | refine kA ?_ _)); exact BK278.out⟩, ⟨by (with_reducible repeat (first | refine kN ?_ _ | refine kD ?_ | refine kA ?_ _)); exact BK279.out⟩, ⟨by repeat (first | (with_reducible first | exact HB.out | apply kL | apply kM | apply kE | refine kS ?_ GE278.out | refine kS ?_ GE279.out) | exact HB.out)⟩⟩
   ·rw [if_neg c30] at H
    have c30b0 : (a0_0 == 2) = false := beq_eq_false_iff_ne.mpr c30
    have c30b1 : (a0_0 != 2) = true := bne_iff_ne.mpr c30
    (first | (generalize hg_ : (a0_0 == 2) = bg_ at *; subst c30b0; have c30b0 := hg_; clear hg_) | rw [c30b0] | (simp only [i64_w, i32_w]; rw [c30b0]) | skip)
    have H' := Aside0.mk H
    clear H
    go_wp2
    go_meet
    case rel => exact ⟨_, ((a0_0 == 3)), (by first | rfl | (simp; done) | (simp [*]; done)), (by first | (with_reducible exact H') | (simp only [*]; with_reducible exact H') | exact H'), ⟨by first | omega | exact Nat.le_refl _⟩, ⟨by (with_reducible repeat (first | refine kN ?_ _ | refine kD ?_ | refine kA ?_ _)); exact BK278.out⟩, ⟨by (with_reducible repeat (first | refine kN ?_ _ | refine kD ?_ | refine kA ?_ _)); exact BK279.out⟩, ⟨by repeat (first | (with_reducible first | exact HB.out | apply kL | apply kM | apply kE | refine kS ?_ GE278.out | refine kS ?_ GE279.out) | exact HB.out)⟩⟩
  case rest =>
   clear HC22
   try clear c1
   try clear p1
   try clear c2
   try clear c2b0
   try clear c2b1
   try clear p2
   try clear c3
   try clear c3b0
   try clear c3b1
   try clear c3b2
   try clear c8
   try clear c12
   try clear c16
   try clear p16
   try clear c17
   try clear c26
   try clear c28
   try clear c30
   try clear c30b0
   try clear c30b1
   try clear hcz11_0
   try clear hcz11_1
   try clear hcz11_10
   try clear hcz11_11
   try clear hcz11_12
   try clear hcz11_13
   try clear hcz11_14
   try clear hcz11_15
   try clear hcz11_2
   try clear hcz11_3
   try clear hcz11_4
   try clear hcz11_5
   try clear hcz11_6
   try clear hcz11_7
   try clear hcz11_8
   try clear hcz11_9
   try clear hcz12_0
   try clear hcz12_1
   try clear hcz12_10
   try clear hcz12_11
   try clear hcz12_12
   try clear hcz12_13
   try clear hcz12_14
   try clear hcz12_15
   try clear hcz12_2
   try clear hcz12_3
   try clear hcz12_4
   try clear hcz12_5
   try clear hcz12_6
   try clear hcz12_7
   try clear hcz12_8
   try clear hcz12_9
   try clear hcz15_0
   try clear hcz15_1
   try clear hcz15_10
   try clear hcz15_11
   try clear hcz15_12
   try clear hcz15_13
   try clear hcz15_14
   try clear hcz15_15
   try clear hcz15_2
   try clear hcz15_3
   try clear hcz15_4
   try clear hcz15_5
   try clear hcz15_6
   try clear hcz15_7
   try clear hcz15_8
   try clear hcz15_9
   try clear hcz18_0
   try clear hcz18_1
   try clear hcz18_10
   try clear hcz18_11
   try clear hcz18_12
   try clear hcz18_13
   try clear hcz18_14
   try clear hcz18_15
   try clear hcz18_2
   try clear hcz18_3
   try clear hcz18_4
   try clear hcz18_5
   try clear hcz18_6
   try clear hcz18_7
   try clear hcz18_8
   try clear hcz18_9
   try clear hcz20_0
   try clear hcz20_1
   try clear hcz20_10
   try clear hcz20_11
   try clear hcz20_12
   try clear hcz20_13
   try clear hcz20_14
   try clear hcz20_15
   try clear hcz20_2
   try clear hcz20_3
   try clear hcz20_4
   try clear hcz20_5
   try clear hcz20_6
   try clear hcz20_7
   try clear hcz20_8
   try clear hcz20_9
   try clear hcz21_0
   try clear hcz21_1
   try clear hcz21_10
   try clear hcz21_11
   try clear hcz21_12
   try clear hcz21_13
   try clear hcz21_14
   try clear hcz21_15
   try clear hcz21_2
   try clear hcz21_3
   try clear hcz21_4
   try clear hcz21_5
   try clear hcz21_6
   try clear hcz21_7
   try clear hcz21_8
   try clear hcz21_9
   try clear hcz24_0
   try clear hcz24_1
   try clear hcz24_10
   try clear hcz24_11
   try clear hcz24_12
   try clear hcz24_13
   try clear hcz24_14
   try clear hcz24_15
   try clear hcz24_2
   try clear hcz24_3
   try clear hcz24_4
   try clear hcz24_5
   try clear hcz24_6
   try clear hcz24_7
   try clear hcz24_8
   try clear hcz24_9
   try clear hcz27_0
   try clear hcz27_1
   try clear hcz27_10
   try clear hcz27_11
   try clear hcz27_12
   try clear hcz27_13
   try clear hcz27_14
   try clear hcz27_15
   try clear hcz27_2
   try clear hcz27_3
   try clear hcz27_4
   try clear hcz27_5
   try clear hcz27_6
   try clear hcz27_7
   try clear hcz27_8
   try clear hcz27_9
   try clear hcz29_0
   try clear hcz29_1
   try clear hcz29_10
   try clear hcz29_11
   try clear hcz29_12
   try clear hcz29_13
   try clear hcz29_14
   try clear hcz29_15
   try clear hcz29_2
   try clear hcz29_3
   try clear hcz29_4
   try clear hcz29_5
   try clear hcz29_6
   try clear hcz29_7
   try clear hcz29_8
   try clear hcz29_9
   try clear hcz6_0
   try clear hcz6_1
   try clear hcz6_10
   try clear hcz6_11
   try clear hcz6_12
   try clear hcz6_13
   try clear hcz6_14
   try clear hcz6_15
   try clear hcz6_2
   try clear hcz6_3
   try clear hcz6_4
   try clear hcz6_5
   try clear hcz6_6
   try clear hcz6_7
   try clear hcz6_8
   try clear hcz6_9
   try clear hcz9_0
   try clear hcz9_1
   try clear hcz9_10
   try clear hcz9_11
   try clear hcz9_12
   try clear hcz9_13
   try clear hcz9_14
   try clear hcz9_15
   try clear hcz9_2
   try clear hcz9_3
   try clear hcz9_4
   try clear hcz9_5
   try clear hcz9_6
   try clear hcz9_7
   try clear hcz9_8
   try clear hcz9_9
   try clear hfz11_0
   try clear hfz11_1
   try clear hfz11_10
   try clear hfz11_11
   try clear hfz11_12
   try clear hfz11_13
   try clear hfz11_14
   try clear hfz11_15
   try clear hfz11_2
   try clear hfz11_3
   try clear hfz11_4
   try clear hfz11_5
   try clear hfz11_6
   try clear hfz11_7
   try clear hfz11_8
   try clear hfz11_9
   try clear hfz12_0
   try clear hfz12_1
   try clear hfz12_10
   try clear hfz12_11
   try clear hfz12_12
   try clear hfz12_13
   try clear hfz12_14
   try clear hfz12_15
   try clear hfz12_2
   try clear hfz12_3
   try clear hfz12_4
   try clear hfz12_5
   try clear hfz12_6
   try clear hfz12_7
   try clear hfz12_8
   try clear hfz12_9
   try clear hfz15_0
   try clear hfz15_1
   try clear hfz15_10
   try clear hfz15_11
   try clear hfz15_12
   try clear hfz15_13
   try clear hfz15_14
   try clear hfz15_15
   try clear hfz15_2
   try clear hfz15_3
   try clear hfz15_4
   try clear hfz15_5
   try clear hfz15_6
   try clear hfz15_7
   try clear hfz15_8
   try clear hfz15_9
   try clear hfz18_0
   try clear hfz18_1
   try clear hfz18_10
   try clear hfz18_11
   try clear hfz18_12
   try clear hfz18_13
   try clear hfz18_14
   try clear hfz18_15
   try clear hfz18_2
   try clear hfz18_3
   try clear hfz18_4
   try clear hfz18_5
   try clear hfz18_6
   try clear hfz18_7
   try clear hfz18_8
   try clear hfz18_9
   try clear hfz20_0
   try clear hfz20_1
   try clear hfz20_10
   try clear hfz20_11
   try clear hfz20_12
   try clear hfz20_13
   try clear hfz20_14
   try clear hfz20_15
   try clear hfz20_2
   try clear hfz20_3
   try clear hfz20_4
   try clear hfz20_5
   try clear hfz20_6
   try clear hfz20_7
   try clear hfz20_8
   try clear hfz20_9
   try clear hfz21_0
   try clear hfz21_1
   try clear hfz21_10
   try clear hfz21_11
   try clear hfz21_12
   try clear hfz21_13
   try clear hfz21_14
   try clear hfz21_15
   try clear hfz21_2
   try clear hfz21_3
   try clear hfz21_4
   try clear hfz21_5
   try clear hfz21_6
   try clear hfz21_7
   try clear hfz21_8
   try clear hfz21_9
   try clear hfz24_0
   try clear hfz24_1
   try clear hfz24_10
   try clear hfz24_11
   try clear hfz24_12
   try clear hfz24_13
   try clear hfz24_14
   try clear hfz24_15
   try clear hfz24_2
   try clear hfz24_3
   try clear hfz24_4
   try clear hfz24_5
   try clear hfz24_6
   try clear hfz24_7
   try clear hfz24_8
   try clear hfz24_9
   try clear hfz27_0
   try clear hfz27_1
   try clear hfz27_10
   try clear hfz27_11
   try clear hfz27_12
   try clear hfz27_13
   try clear hfz27_14
   try clear hfz27_15
   try clear hfz27_2
   try clear hfz27_3
   try clear hfz27_4
   try clear hfz27_5
   try clear hfz27_6
   try clear hfz27_7
   try clear hfz27_8
   try clear hfz27_9
   try clear hfz29_0
   try clear hfz29_1
   try clear hfz29_10
   try clear hfz29_11
   try clear hfz29_12
   try clear hfz29_13
   try clear hfz29_14
   try clear hfz29_15
   try clear hfz29_2
   try clear hfz29_3
   try clear hfz29_4
   try clear hfz29_5
   try clear hfz29_6
   try clear hfz29_7
   try clear hfz29_8
   try clear hfz29_9
   try clear hfz6_0
   try clear hfz6_1
   try clear hfz6_10
   try clear hfz6_11
   try clear hfz6_12
   try clear hfz6_13
   try clear hfz6_14
   try clear hfz6_15
   try clear hfz6_2
   try clear hfz6_3
   try clear hfz6_4
   try clear hfz6_5
   try clear hfz6_6
   try clear hfz6_7
   try clear hfz6_8
   try clear hfz6_9
   try clear hfz9_0
   try clear hfz9_1
   try clear hfz9_10
   try clear hfz9_11
   try clear hfz9_12
   try clear hfz9_13
   try clear hfz9_14
   try clear hfz9_15
   try clear hfz9_2
   try clear hfz9_3
   try clear hfz9_4
   try clear hfz9_5
   try clear hfz9_6
   try clear hfz9_7
   try clear hfz9_8
   try clear hfz9_9
   obtain ⟨kq, x21_21, rfl, HA, HJ21, BK278, BK279, HB⟩ := hcut
   cases kq with
   | zero => exact absurd HA.out (by simp [paybooklaw10_right.j0])
   | succ kj21 =>
    have H := HA.out
    clear HA
    simp only [paybooklaw10_right.j0] at H
    by_cases c31 : x21_21 = true
    ·subst c31
     have H1 : (if a0_1 ≥ 0 then (if a0_1 < 32 then (if a0_2 ≥ 0 then (if a0_2 < 8 then (if (a0_0 == a0_0 && (a0_3 == 0 && ((a0_4 == 0 && (a0_5 == 0 && (a0_6 == 0 && (a0_7 == 0 && (a0_8 == false && (a0_9 == false)))))) && ((a0_10 == 0 && (a0_11 == 0 && (a0_12 == 0 && (a0_13 == 0 && (a0_14 == 0 && (a0_15 == 0)))))))))) = true then (some 0) else (some 1)) else (some 1)) else (some 1)) else (some 1)) else (some 1)) = some r := by rw [if_pos rfl] at H; try exact H
     clear H
     have H := H1
     clear H1
     by_cases c32 : a0_1 ≥ 0
     ·rw [if_pos c32] at H
      have c32b0 : decide (0 ≤ a0_1) = true := decide_eq_true c32
      clear c32
      by_cases c33 : a0_1 < 32
      ·rw [if_pos c33] at H
       have c33b0 : decide (a0_1 < 32) = true := decide_eq_true c33
       clear c33
       by_cases c34 : a0_2 ≥ 0
       ·rw [if_pos c34] at H
        have c34b0 : decide (0 ≤ a0_2) = true := decide_eq_true c34
        clear c34
        by_cases c35 : a0_2 < 8
        ·rw [if_pos c35] at H
         have c35b0 : decide (a0_2 < 8) = true := decide_eq_true c35
         clear c35
         by_cases c36 : (a0_0 == a0_0 && (a0_3 == 0 && ((a0_4 == 0 && (a0_5 == 0 && (a0_6 == 0 && (a0_7 == 0 && (a0_8 == false && (a0_9 == false)))))) && ((a0_10 == 0 && (a0_11 == 0 && (a0_12 == 0 && (a0_13 == 0 && (a0_14 == 0 && (a0_15 == 0)))))))))) = true
         ·rw [if_pos c36] at H
          have c36b0 : (a0_0 == a0_0 && (a0_3 == 0 && ((a0_4 == 0 && (a0_5 == 0 && (a0_6 == 0 && (a0_7 == 0 && (a0_8 == false && (a0_9 == false)))))) && ((a0_10 == 0 && (a0_11 == 0 && (a0_12 == 0 && (a0_13 == 0 && (a0_14 == 0 && (a0_15 == 0)))))))))) = true := c36
          (try (have c36b1 : decide (a0_0 = a0_0 && (a0_3 == 0 && ((a0_4 == 0 && (a0_5 == 0 && (a0_6 == 0 && (a0_7 == 0 && (a0_8 == false && (a0_9 == false)))))) && ((a0_10 == 0 && (a0_11 == 0 && (a0_12 == 0 && (a0_13 == 0 && (a0_14 == 0 && (a0_15 == 0)))))))))) = true := by simpa using c36))
          (try (have c36b2 : (a0_0 == a0_0 && (a0_3 == 0 && ((a0_4 == 0 && (a0_5 == 0 && (a0_6 == 0 && (a0_7 == 0 && (a0_8 == false && (a0_9 == false)))))) && ((a0_10 == 0 && (a0_11 == 0 && (a0_12 == 0 && (a0_13 == 0 && (a0_14 == 0 && (a0_15 == 0)))))))))) = true := by simpa using c36))
          clear c36
          (try (have c36b0z_ := c36b0; simp only [beq_true, beq_false, true_beq, false_beq, Bool.not_eq_true', Bool.not_eq_false', Bool.not_true, Bool.not_false] at c36b0z_)); (try (have c36b0y_ := c36b0; simp only [beq_self_eq_true, Bool.true_and, beq_false, beq_true, Bool.eq_false_iff, ne_eq, Bool.and_eq_true] at c36b0y_))
          obtain rfl := Option.some.inj H
          have hnb37 := NB278_279.out
          have hnc37 := NB279_278.out
          obtain ⟨hcz38_0, hcz38_1, hcz38_2, hcz38_3, hcz38_4, hcz38_5, hcz38_6, hcz38_7, hcz38_8, hcz38_9, hcz38_10, hcz38_11, hcz38_12, hcz38_13, hcz38_14, hcz38_15, hfz38_0, hfz38_1, hfz38_2, hfz38_3, hfz38_4, hfz38_5, hfz38_6, hfz38_7, hfz38_8, hfz38_9, hfz38_10, hfz38_11, hfz38_12, hfz38_13, hfz38_14, hfz38_15⟩ := bxc16 BK278.out
          obtain ⟨hcz39_0, hcz39_1, hcz39_2, hcz39_3, hcz39_4, hcz39_5, hcz39_6, hcz39_7, hcz39_8, hcz39_9, hcz39_10, hcz39_11, hcz39_12, hcz39_13, hcz39_14, hcz39_15, hfz39_0, hfz39_1, hfz39_2, hfz39_3, hfz39_4, hfz39_5, hfz39_6, hfz39_7, hfz39_8, hfz39_9, hfz39_10, hfz39_11, hfz39_12, hfz39_13, hfz39_14, hfz39_15⟩ := bxc16 BK279.out
          go_wp2_with (first | ((with_reducible refine gate_dst (N := 112) rfl ?_); (refine gate_guard (by rfl) ?_; dsimp only); refine wpList_load_row rfl 27 (.tmp 1) rfl gb278 rfl 27 #[.int .u8 a0_0, .int .i64 a0_1, .int .i64 a0_2, .int .i64 a0_3, .int .i64 a0_4, .int .u8 a0_5, .int .i64 a0_6, .int .i64 a0_7, .bool a0_8, .bool a0_9, .int .u8 a0_10, .int .i64 a0_11, .int .i64 a0_12, .int .i64 a0_13, .int .i64 a0_14, .int .u8 a0_15] (0, 0) _ (by (with_reducible repeat (first | refine kN ?_ _ | refine kD ?_ | refine kA ?_ _ | refine kR ?_ NB278_279.out _)); (with_reducible repeat (first | refine kN ?_ _ | refine kD ?_ | refine kA ?_ _)); exact BK278.out) Try.underlying27 rfl (by kernel_rfl) ?_) | ((with_reducible refine gate_dst (N := 113) rfl ?_); (refine gate_guard (by rfl) ?_; dsimp only); refine wpList_load_row rfl 27 (.tmp 3) rfl gb279 rfl 27 #[.int .u8 a0_0, .int .i64 a0_1, .int .i64 a0_2, .int .i64 0, .int .i64 0, .int .u8 0, .int .i64 0, .int .i64 0, .bool false, .bool false, .int .u8 0, .int .i64 0, .int .i64 0, .int .i64 0, .int .i64 0, .int .u8 0] (0, 0) _ (by (with_reducible repeat (first | refine kN ?_ _ | refine kD ?_ | refine kA ?_ _)); refine bxp16_2 (o := .int .i64 0) ?_; (with_reducible repeat (first | refine kN ?_ _ | refine kD ?_ | refine kA ?_ _)); refine bxp16_1 (o := .int .i64 0) ?_; (with_reducible repeat (first | refine kN ?_ _ | refine kD ?_ | refine kA ?_ _)); exact BK279.out) Try.underlying27 rfl (by kernel_rfl) ?_))
          go_ret
          exact ⟨by first | rfl | (simp [errW_none, errW_some] <;> rfl) | (simp [*, errW_none, errW_some] <;> rfl), by repeat (first | (with_reducible first | exact HB.out | apply kL | apply kM | apply kE | refine kS ?_ GE278.out | refine kS ?_ GE279.out) | exact HB.out)⟩
         ·rw [if_neg c36] at H
          have c36b0 : (a0_0 == a0_0 && (a0_3 == 0 && ((a0_4 == 0 && (a0_5 == 0 && (a0_6 == 0 && (a0_7 == 0 && (a0_8 == false && (a0_9 == false)))))) && ((a0_10 == 0 && (a0_11 == 0 && (a0_12 == 0 && (a0_13 == 0 && (a0_14 == 0 && (a0_15 == 0)))))))))) = false := by simpa using c36
          (try (have c36b1 : decide (a0_0 = a0_0 && (a0_3 == 0 && ((a0_4 == 0 && (a0_5 == 0 && (a0_6 == 0 && (a0_7 == 0 && (a0_8 == false && (a0_9 == false)))))) && ((a0_10 == 0 && (a0_11 == 0 && (a0_12 == 0 && (a0_13 == 0 && (a0_14 == 0 && (a0_15 == 0)))))))))) = false := by simpa using c36))
          (try (have c36b2 : (a0_0 == a0_0 && (a0_3 == 0 && ((a0_4 == 0 && (a0_5 == 0 && (a0_6 == 0 && (a0_7 == 0 && (a0_8 == false && (a0_9 == false)))))) && ((a0_10 == 0 && (a0_11 == 0 && (a0_12 == 0 && (a0_13 == 0 && (a0_14 == 0 && (a0_15 == 0)))))))))) = false := by simpa using c36))
          (try (have c36b3 : ¬ (a0_0 = a0_0 && (a0_3 == 0 && ((a0_4 == 0 && (a0_5 == 0 && (a0_6 == 0 && (a0_7 == 0 && (a0_8 == false && (a0_9 == false)))))) && ((a0_10 == 0 && (a0_11 == 0 && (a0_12 == 0 && (a0_13 == 0 && (a0_14 == 0 && (a0_15 == 0)))))))))) := by simpa using c36))
          clear c36
          (try (have c36b0z_ := c36b0; simp only [beq_true, beq_false, true_beq, false_beq, Bool.not_eq_true', Bool.not_eq_false', Bool.not_true, Bool.not_false] at c36b0z_)); (try (have c36b0y_ := c36b0; simp only [beq_self_eq_true, Bool.true_and, beq_false, beq_true, Bool.eq_false_iff, ne_eq, Bool.and_eq_true] at c36b0y_))
          obtain rfl := Option.some.inj H
          have hnb40 := NB278_279.out
          have hnc40 := NB279_278.out
          obtain ⟨hcz41_0, hcz41_1, hcz41_2, hcz41_3, hcz41_4, hcz41_5, hcz41_6, hcz41_7, hcz41_8, hcz41_9, hcz41_10, hcz41_11, hcz41_12, hcz41_13, hcz41_14, hcz41_15, hfz41_0, hfz41_1, hfz41_2, hfz41_3, hfz41_4, hfz41_5, hfz41_6, hfz41_7, hfz41_8, hfz41_9, hfz41_10, hfz41_11, hfz41_12, hfz41_13, hfz41_14, hfz41_15⟩ := bxc16 BK278.out
          obtain ⟨hcz42_0, hcz42_1, hcz42_2, hcz42_3, hcz42_4, hcz42_5, hcz42_6, hcz42_7, hcz42_8, hcz42_9, hcz42_10, hcz42_11, hcz42_12, hcz42_13, hcz42_14, hcz42_15, hfz42_0, hfz42_1, hfz42_2, hfz42_3, hfz42_4, hfz42_5, hfz42_6, hfz42_7, hfz42_8, hfz42_9, hfz42_10, hfz42_11, hfz42_12, hfz42_13, hfz42_14, hfz42_15⟩ := bxc16 BK279.out
          go_wp2_with (first | ((with_reducible refine gate_dst (N := 112) rfl ?_); (refine gate_guard (by rfl) ?_; dsimp only); refine wpList_load_row rfl 27 (.tmp 1) rfl gb278 rfl 27 #[.int .u8 a0_0, .int .i64 a0_1, .int .i64 a0_2, .int .i64 a0_3, .int .i64 a0_4, .int .u8 a0_5, .int .i64 a0_6, .int .i64 a0_7, .bool a0_8, .bool a0_9, .int .u8 a0_10, .int .i64 a0_11, .int .i64 a0_12, .int .i64 a0_13, .int .i64 a0_14, .int .u8 a0_15] (0, 0) _ (by (with_reducible repeat (first | refine kN ?_ _ | refine kD ?_ | refine kA ?_ _ | refine kR ?_ NB278_279.out _)); (with_reducible repeat (first | refine kN ?_ _ | refine kD ?_ | refine kA ?_ _)); exact BK278.out) Try.underlying27 rfl (by kernel_rfl) ?_) | ((with_reducible refine gate_dst (N := 113) rfl ?_); (refine gate_guard (by rfl) ?_; dsimp only); refine wpList_load_row rfl 27 (.tmp 3) rfl gb279 rfl 27 #[.int .u8 a0_0, .int .i64 a0_1, .int .i64 a0_2, .int .i64 0, .int .i64 0, .int .u8 0, .int .i64 0, .int .i64 0, .bool false, .bool false, .int .u8 0, .int .i64 0, .int .i64 0, .int .i64 0, .int .i64 0, .int .u8 0] (0, 0) _ (by (with_reducible repeat (first | refine kN ?_ _ | refine kD ?_ | refine kA ?_ _)); refine bxp16_2 (o := .int .i64 0) ?_; (with_reducible repeat (first | refine kN ?_ _ | refine kD ?_ | refine kA ?_ _)); refine bxp16_1 (o := .int .i64 0) ?_; (with_reducible repeat (first | refine kN ?_ _ | refine kD ?_ | refine kA ?_ _)); exact BK279.out) Try.underlying27 rfl (by kernel_rfl) ?_))
          go_ret
          exact ⟨by first | rfl | (simp [errW_none, errW_some] <;> rfl) | (simp [*, errW_none, errW_some] <;> rfl), by repeat (first | (with_reducible first | exact HB.out | apply kL | apply kM | apply kE | refine kS ?_ GE278.out | refine kS ?_ GE279.out) | exact HB.out)⟩
        ·rw [if_neg c35] at H
         have c35b0 : decide (a0_2 < 8) = false := decide_eq_false c35
         clear c35
         obtain rfl := Option.some.inj H
         have hnb43 := NB278_279.out
         have hnc43 := NB279_278.out
         obtain ⟨hcz44_0, hcz44_1, hcz44_2, hcz44_3, hcz44_4, hcz44_5, hcz44_6, hcz44_7, hcz44_8, hcz44_9, hcz44_10, hcz44_11, hcz44_12, hcz44_13, hcz44_14, hcz44_15, hfz44_0, hfz44_1, hfz44_2, hfz44_3, hfz44_4, hfz44_5, hfz44_6, hfz44_7, hfz44_8, hfz44_9, hfz44_10, hfz44_11, hfz44_12, hfz44_13, hfz44_14, hfz44_15⟩ := bxc16 BK278.out
         obtain ⟨hcz45_0, hcz45_1, hcz45_2, hcz45_3, hcz45_4, hcz45_5, hcz45_6, hcz45_7, hcz45_8, hcz45_9, hcz45_10, hcz45_11, hcz45_12, hcz45_13, hcz45_14, hcz45_15, hfz45_0, hfz45_1, hfz45_2, hfz45_3, hfz45_4, hfz45_5, hfz45_6, hfz45_7, hfz45_8, hfz45_9, hfz45_10, hfz45_11, hfz45_12, hfz45_13, hfz45_14, hfz45_15⟩ := bxc16 BK279.out
         go_wp2
         go_ret
         exact ⟨by first | rfl | (simp [errW_none, errW_some] <;> rfl) | (simp [*, errW_none, errW_some] <;> rfl), by repeat (first | (with_reducible first | exact HB.out | apply kL | apply kM | apply kE | refine kS ?_ GE278.out | refine kS ?_ GE279.out) | exact HB.out)⟩
       ·rw [if_neg c34] at H
        have c34b0 : decide (0 ≤ a0_2) = false := decide_eq_false c34
        clear c34
        obtain rfl := Option.some.inj H
        have hnb46 := NB278_279.out
        have hnc46 := NB279_278.out
        obtain ⟨hcz47_0, hcz47_1, hcz47_2, hcz47_3, hcz47_4, hcz47_5, hcz47_6, hcz47_7, hcz47_8, hcz47_9, hcz47_10, hcz47_11, hcz47_12, hcz47_13, hcz47_14, hcz47_15, hfz47_0, hfz47_1, hfz47_2, hfz47_3, hfz47_4, hfz47_5, hfz47_6, hfz47_7, hfz47_8, hfz47_9, hfz47_10, hfz47_11, hfz47_12, hfz47_13, hfz47_14, hfz47_15⟩ := bxc16 BK278.out
        obtain ⟨hcz48_0, hcz48_1, hcz48_2, hcz48_3, hcz48_4, hcz48_5, hcz48_6, hcz48_7, hcz48_8, hcz48_9, hcz48_10, hcz48_11, hcz48_12, hcz48_13, hcz48_14, hcz48_15, hfz48_0, hfz48_1, hfz48_2, hfz48_3, hfz48_4, hfz48_5, hfz48_6, hfz48_7, hfz48_8, hfz48_9, hfz48_10, hfz48_11, hfz48_12, hfz48_13, hfz48_14, hfz48_15⟩ := bxc16 BK279.out
        go_wp2
        go_ret
        exact ⟨by first | rfl | (simp [errW_none, errW_some] <;> rfl) | (simp [*, errW_none, errW_some] <;> rfl), by repeat (first | (with_reducible first | exact HB.out | apply kL | apply kM | apply kE | refine kS ?_ GE278.out | refine kS ?_ GE279.out) | exact HB.out)⟩
      ·rw [if_neg c33] at H
       have c33b0 : decide (a0_1 < 32) = false := decide_eq_false c33
       clear c33
       obtain rfl := Option.some.inj H
       have hnb49 := NB278_279.out
       have hnc49 := NB279_278.out
       obtain ⟨hcz50_0, hcz50_1, hcz50_2, hcz50_3, hcz50_4, hcz50_5, hcz50_6, hcz50_7, hcz50_8, hcz50_9, hcz50_10, hcz50_11, hcz50_12, hcz50_13, hcz50_14, hcz50_15, hfz50_0, hfz50_1, hfz50_2, hfz50_3, hfz50_4, hfz50_5, hfz50_6, hfz50_7, hfz50_8, hfz50_9, hfz50_10, hfz50_11, hfz50_12, hfz50_13, hfz50_14, hfz50_15⟩ := bxc16 BK278.out
       obtain ⟨hcz51_0, hcz51_1, hcz51_2, hcz51_3, hcz51_4, hcz51_5, hcz51_6, hcz51_7, hcz51_8, hcz51_9, hcz51_10, hcz51_11, hcz51_12, hcz51_13, hcz51_14, hcz51_15, hfz51_0, hfz51_1, hfz51_2, hfz51_3, hfz51_4, hfz51_5, hfz51_6, hfz51_7, hfz51_8, hfz51_9, hfz51_10, hfz51_11, hfz51_12, hfz51_13, hfz51_14, hfz51_15⟩ := bxc16 BK279.out
       go_wp2
       go_ret
       exact ⟨by first | rfl | (simp [errW_none, errW_some] <;> rfl) | (simp [*, errW_none, errW_some] <;> rfl), by repeat (first | (with_reducible first | exact HB.out | apply kL | apply kM | apply kE | refine kS ?_ GE278.out | refine kS ?_ GE279.out) | exact HB.out)⟩
     ·rw [if_neg c32] at H
      have c32b0 : decide (0 ≤ a0_1) = false := decide_eq_false c32
      clear c32
      obtain rfl := Option.some.inj H
      have hnb52 := NB278_279.out
      have hnc52 := NB279_278.out
      obtain ⟨hcz53_0, hcz53_1, hcz53_2, hcz53_3, hcz53_4, hcz53_5, hcz53_6, hcz53_7, hcz53_8, hcz53_9, hcz53_10, hcz53_11, hcz53_12, hcz53_13, hcz53_14, hcz53_15, hfz53_0, hfz53_1, hfz53_2, hfz53_3, hfz53_4, hfz53_5, hfz53_6, hfz53_7, hfz53_8, hfz53_9, hfz53_10, hfz53_11, hfz53_12, hfz53_13, hfz53_14, hfz53_15⟩ := bxc16 BK278.out
      obtain ⟨hcz54_0, hcz54_1, hcz54_2, hcz54_3, hcz54_4, hcz54_5, hcz54_6, hcz54_7, hcz54_8, hcz54_9, hcz54_10, hcz54_11, hcz54_12, hcz54_13, hcz54_14, hcz54_15, hfz54_0, hfz54_1, hfz54_2, hfz54_3, hfz54_4, hfz54_5, hfz54_6, hfz54_7, hfz54_8, hfz54_9, hfz54_10, hfz54_11, hfz54_12, hfz54_13, hfz54_14, hfz54_15⟩ := bxc16 BK279.out
      go_wp2
      go_ret
      exact ⟨by first | rfl | (simp [errW_none, errW_some] <;> rfl) | (simp [*, errW_none, errW_some] <;> rfl), by repeat (first | (with_reducible first | exact HB.out | apply kL | apply kM | apply kE | refine kS ?_ GE278.out | refine kS ?_ GE279.out) | exact HB.out)⟩
    ·replace c31 := Bool.eq_false_iff.mpr c31
     subst c31
     have H1 : (if a0_0 = 4 then (paybooklaw10_right.j1 kj21 false a0_0 (a0_0 == 4) a0_0 a0_1 a0_2 a0_3 a0_4 a0_5 a0_6 a0_7 a0_8 a0_9 a0_10 a0_11 a0_12 a0_13 a0_14 a0_15 a0_0 0 0 0 0 0 0 0 false false 0 0 0 0 0 0) else (if a0_0 = 5 then (paybooklaw10_right.j1 kj21 false a0_0 (a0_0 == 5) a0_0 a0_1 a0_2 a0_3 a0_4 a0_5 a0_6 a0_7 a0_8 a0_9 a0_10 a0_11 a0_12 a0_13 a0_14 a0_15 a0_0 0 0 0 0 0 0 0 false false 0 0 0 0 0 0) else (if a0_0 = 6 then (paybooklaw10_right.j1 kj21 false a0_0 (a0_0 == 6) a0_0 a0_1 a0_2 a0_3 a0_4 a0_5 a0_6 a0_7 a0_8 a0_9 a0_10 a0_11 a0_12 a0_13 a0_14 a0_15 a0_0 0 0 0 0 0 0 0 false false 0 0 0 0 0 0) else (if a0_0 = 7 then (paybooklaw10_right.j1 kj21 false a0_0 (a0_0 == 7) a0_0 a0_1 a0_2 a0_3 a0_4 a0_5 a0_6 a0_7 a0_8 a0_9 a0_10 a0_11 a0_12 a0_13 a0_14 a0_15 a0_0 0 0 0 0 0 0 0 false false 0 0 0 0 0 0) else (paybooklaw10_right.j1 kj21 false a0_0 (a0_0 == 8) a0_0 a0_1 a0_2 a0_3 a0_4 a0_5 a0_6 a0_7 a0_8 a0_9 a0_10 a0_11 a0_12 a0_13 a0_14 a0_15 a0_0 0 0 0 0 0 0 0 false false 0 0 0 0 0 0))))) = some r := by rw [if_neg (show ¬ (false = true) by decide)] at H; try exact H
     clear H
     have H := H1
     clear H1
     have HC55 := Aside0.mk H
     clear H
     go_upto_if 48 with (fail)
     go_cut [48] (fun v48 wc => ∃ (kq : Nat) (x48_54 : Bool), v48 = .bool x48_54 ∧ Aside0 (paybooklaw10_right.j1 kq false a0_0 x48_54 a0_0 a0_1 a0_2 a0_3 a0_4 a0_5 a0_6 a0_7 a0_8 a0_9 a0_10 a0_11 a0_12 a0_13 a0_14 a0_15 a0_0 0 0 0 0 0 0 0 false false 0 0 0 0 0 0 = some r) ∧ Aside0 (kq ≤ kj21) ∧ Aside0 (wc.heap[gb278]? = some (.cells #[.int .u8 a0_0, .int .i64 a0_1, .int .i64 a0_2, .int .i64 a0_3, .int .i64 a0_4, .int .u8 a0_5, .int .i64 a0_6, .int .i64 a0_7, .bool a0_8, .bool a0_9, .int .u8 a0_10, .int .i64 a0_11, .int .i64 a0_12, .int .i64 a0_13, .int .i64 a0_14, .int .u8 a0_15] 27 (0, 0))) ∧ Aside0 (wc.heap[gb279]? = some (.cells #[.int .u8 a0_0, .int .i64 0, .int .i64 0, .int .i64 0, .int .i64 0, .int .u8 0, .int .i64 0, .int .i64 0, .bool false, .bool false, .int .u8 0, .int .i64 0, .int .i64 0, .int .i64 0, .int .i64 0, .int .u8 0] 27 (0, 0))) ∧ Aside0 (Below w.heap.size w wc))
     case first =>
      have H := HC55.out
      clear HC55
      by_cases c56 : a0_0 = 4
      ·rw [if_pos c56] at H
       have c56b0 : (a0_0 == 4) = true := beq_iff_eq.mpr c56
       have c56b1 : (a0_0 != 4) = false := bne_eq_false_iff_eq.mpr c56
       clear c56
       (first | (generalize hg_ : (a0_0 == 4) = bg_ at *; subst c56b0; have c56b0 := hg_; clear hg_) | rw [c56b0] | (simp only [i64_w, i32_w]; rw [c56b0]) | skip)
       have H' := Aside0.mk H
       clear H
       go_wp2
       go_meet
       case rel => exact ⟨_, ((a0_0 == 4)), (by first | rfl | (simp; done) | (simp [*]; done)), (by first | (with_reducible exact H') | (simp only [*]; with_reducible exact H') | exact H'), ⟨by have := HJ21.out; first | omega | exact Nat.le_refl _⟩, ⟨by (with_reducible repeat (first | refine kN ?_ _ | refine kD ?_ | refine kA ?_ _)); exact BK278.out⟩, ⟨by (with_reducible repeat (first | refine kN ?_ _ | refine kD ?_ | refine kA ?_ _)); exact BK279.out⟩, ⟨by repeat (first | (with_reducible first | exact HB.out | apply kL | apply kM | apply kE | refine kS ?_ GE278.out | refine kS ?_ GE279.out) | exact HB.out)⟩⟩
      ·rw [if_neg c56] at H
       have c56b0 : (a0_0 == 4) = false := beq_eq_false_iff_ne.mpr c56
       have c56b1 : (a0_0 != 4) = true := bne_iff_ne.mpr c56
       (first | (generalize hg_ : (a0_0 == 4) = bg_ at *; subst c56b0; have c56b0 := hg_; clear hg_) | rw [c56b0] | (simp only [i64_w, i32_w]; rw [c56b0]) | skip)
       by_cases c57 : a0_0 = 5
       ·rw [if_pos c57] at H
        have c57b0 : (a0_0 == 5) = true := beq_iff_eq.mpr c57
        have c57b1 : (a0_0 != 5) = false := bne_eq_false_iff_eq.mpr c57
        clear c57
        have H' := Aside0.mk H
        clear H
        go_wp2
        go_meet
        case rel => exact ⟨_, ((a0_0 == 5)), (by first | rfl | (simp; done) | (simp [*]; done)), (by first | (with_reducible exact H') | (simp only [*]; with_reducible exact H') | exact H'), ⟨by have := HJ21.out; first | omega | exact Nat.le_refl _⟩, ⟨by (with_reducible repeat (first | refine kN ?_ _ | refine kD ?_ | refine kA ?_ _)); exact BK278.out⟩, ⟨by (with_reducible repeat (first | refine kN ?_ _ | refine kD ?_ | refine kA ?_ _)); exact BK279.out⟩, ⟨by repeat (first | (with_reducible first | exact HB.out | apply kL | apply kM | apply kE | refine kS ?_ GE278.out | refine kS ?_ GE279.out) | exact HB.out)⟩⟩
       ·rw [if_neg c57] at H
        have c57b0 : (a0_0 == 5) = false := beq_eq_false_iff_ne.mpr c57
        have c57b1 : (a0_0 != 5) = true := bne_iff_ne.mpr c57
        by_cases c58 : a0_0 = 6
        ·rw [if_pos c58] at H
         have c58b0 : (a0_0 == 6) = true := beq_iff_eq.mpr c58
         have c58b1 : (a0_0 != 6) = false := bne_eq_false_iff_eq.mpr c58
         clear c58
         have H' := Aside0.mk H
         clear H
         go_wp2
         go_meet
         case rel => exact ⟨_, ((a0_0 == 6)), (by first | rfl | (simp; done) | (simp [*]; done)), (by first | (with_reducible exact H') | (simp only [*]; with_reducible exact H') | exact H'), ⟨by have := HJ21.out; first | omega | exact Nat.le_refl _⟩, ⟨by (with_reducible repeat (first | refine kN ?_ _ | refine kD ?_ | refine kA ?_ _)); exact BK278.out⟩, ⟨by (with_reducible repeat (first | refine kN ?_ _ | refine kD ?_ | refine kA ?_ _)); exact BK279.out⟩, ⟨by repeat (first | (with_reducible first | exact HB.out | apply kL | apply kM | apply kE | refine kS ?_ GE278.out | refine kS ?_ GE279.out) | exact HB.out)⟩⟩
        ·rw [if_neg c58] at H
         have c58b0 : (a0_0 == 6) = false := beq_eq_false_iff_ne.mpr c58
         have c58b1 : (a0_0 != 6) = true := bne_iff_ne.mpr c58
         by_cases c59 : a0_0 = 7
         ·rw [if_pos c59] at H
          have c59b0 : (a0_0 == 7) = true := beq_iff_eq.mpr c59
          have c59b1 : (a0_0 != 7) = false := bne_eq_false_iff_eq.mpr c59
          clear c59
          have H' := Aside0.mk H
          clear H
          go_wp2
          go_meet
          case rel => exact ⟨_, ((a0_0 == 7)), (by first | rfl | (simp; done) | (simp [*]; done)), (by first | (with_reducible exact H') | (simp only [*]; with_reducible exact H') | exact H'), ⟨by have := HJ21.out; first | omega | exact Nat.le_refl _⟩, ⟨by (with_reducible repeat (first | refine kN ?_ _ | refine kD ?_ | refine kA ?_ _)); exact BK278.out⟩, ⟨by (with_reducible repeat (first | refine kN ?_ _ | refine kD ?_ | refine kA ?_ _)); exact BK279.out⟩, ⟨by repeat (first | (with_reducible first | exact HB.out | apply kL | apply kM | apply kE | refine kS ?_ GE278.out | refine kS ?_ GE279.out) | exact HB.out)⟩⟩
         ·rw [if_neg c59] at H
          have c59b0 : (a0_0 == 7) = false := beq_eq_false_iff_ne.mpr c59
          have c59b1 : (a0_0 != 7) = true := bne_iff_ne.mpr c59
          have H' := Aside0.mk H
          clear H
          go_wp2
          go_meet
          case rel => exact ⟨_, ((a0_0 == 8)), (by first | rfl | (simp; done) | (simp [*]; done)), (by first | (with_reducible exact H') | (simp only [*]; with_reducible exact H') | exact H'), ⟨by have := HJ21.out; first | omega | exact Nat.le_refl _⟩, ⟨by (with_reducible repeat (first | refine kN ?_ _ | refine kD ?_ | refine kA ?_ _)); exact BK278.out⟩, ⟨by (with_reducible repeat (first | refine kN ?_ _ | refine kD ?_ | refine kA ?_ _)); exact BK279.out⟩, ⟨by repeat (first | (with_reducible first | exact HB.out | apply kL | apply kM | apply kE | refine kS ?_ GE278.out | refine kS ?_ GE279.out) | exact HB.out)⟩⟩
     case rest =>
      clear HC55
      try clear c1
      try clear p1
      try clear c2
      try clear c2b0
      try clear c2b1
      try clear p2
      try clear c3
      try clear c3b0
      try clear c3b1
      try clear c3b2
      try clear c4
      try clear c5
      try clear c8
      try clear c12
      try clear c16
      try clear p16
      try clear c17
      try clear c26
      try clear c28
      try clear c30
      try clear c30b0
      try clear c30b1
      try clear c31
      try clear c32
      try clear c32b0
      try clear c33
      try clear c33b0
      try clear c34
      try clear c34b0
      try clear c35
      try clear c35b0
      try clear c36
      try clear c36b0
      try clear c36b1
      try clear c36b2
      try clear c37
      try clear c40
      try clear c43
      try clear c46
      try clear c49
      try clear c52
      try clear c56
      try clear c56b0
      try clear c56b1
      try clear c57
      try clear c57b0
      try clear c57b1
      try clear c58
      try clear c58b0
      try clear c58b1
      try clear c59
      try clear c59b0
      try clear c59b1
      try clear hcz11_0
      try clear hcz11_1
      try clear hcz11_10
      try clear hcz11_11
      try clear hcz11_12
      try clear hcz11_13
      try clear hcz11_14
      try clear hcz11_15
      try clear hcz11_2
      try clear hcz11_3
      try clear hcz11_4
      try clear hcz11_5
      try clear hcz11_6
      try clear hcz11_7
      try clear hcz11_8
      try clear hcz11_9
      try clear hcz12_0
      try clear hcz12_1
      try clear hcz12_10
      try clear hcz12_11
      try clear hcz12_12
      try clear hcz12_13
      try clear hcz12_14
      try clear hcz12_15
      try clear hcz12_2
      try clear hcz12_3
      try clear hcz12_4
      try clear hcz12_5
      try clear hcz12_6
      try clear hcz12_7
      try clear hcz12_8
      try clear hcz12_9
      try clear hcz15_0
      try clear hcz15_1
      try clear hcz15_10
      try clear hcz15_11
      try clear hcz15_12
      try clear hcz15_13
      try clear hcz15_14
      try clear hcz15_15
      try clear hcz15_2
      try clear hcz15_3
      try clear hcz15_4
      try clear hcz15_5
      try clear hcz15_6
      try clear hcz15_7
      try clear hcz15_8
      try clear hcz15_9
      try clear hcz18_0
      try clear hcz18_1
      try clear hcz18_10
      try clear hcz18_11
      try clear hcz18_12
      try clear hcz18_13
      try clear hcz18_14
      try clear hcz18_15
      try clear hcz18_2
      try clear hcz18_3
      try clear hcz18_4
      try clear hcz18_5
      try clear hcz18_6
      try clear hcz18_7
      try clear hcz18_8
      try clear hcz18_9
      try clear hcz20_0
      try clear hcz20_1
      try clear hcz20_10
      try clear hcz20_11
      try clear hcz20_12
      try clear hcz20_13
      try clear hcz20_14
      try clear hcz20_15
      try clear hcz20_2
      try clear hcz20_3
      try clear hcz20_4
      try clear hcz20_5
      try clear hcz20_6
      try clear hcz20_7
      try clear hcz20_8
      try clear hcz20_9
      try clear hcz21_0
      try clear hcz21_1
      try clear hcz21_10
      try clear hcz21_11
      try clear hcz21_12
      try clear hcz21_13
      try clear hcz21_14
      try clear hcz21_15
      try clear hcz21_2
      try clear hcz21_3
      try clear hcz21_4
      try clear hcz21_5
      try clear hcz21_6
      try clear hcz21_7
      try clear hcz21_8
      try clear hcz21_9
      try clear hcz24_0
      try clear hcz24_1
      try clear hcz24_10
      try clear hcz24_11
      try clear hcz24_12
      try clear hcz24_13
      try clear hcz24_14
      try clear hcz24_15
      try clear hcz24_2
      try clear hcz24_3
      try clear hcz24_4
      try clear hcz24_5
      try clear hcz24_6
      try clear hcz24_7
      try clear hcz24_8
      try clear hcz24_9
      try clear hcz27_0
      try clear hcz27_1
      try clear hcz27_10
      try clear hcz27_11
      try clear hcz27_12
      try clear hcz27_13
      try clear hcz27_14
      try clear hcz27_15
      try clear hcz27_2
      try clear hcz27_3
      try clear hcz27_4
      try clear hcz27_5
      try clear hcz27_6
      try clear hcz27_7
      try clear hcz27_8
      try clear hcz27_9
      try clear hcz29_0
      try clear hcz29_1
      try clear hcz29_10
      try clear hcz29_11
      try clear hcz29_12
      try clear hcz29_13
      try clear hcz29_14
      try clear hcz29_15
      try clear hcz29_2
      try clear hcz29_3
      try clear hcz29_4
      try clear hcz29_5
      try clear hcz29_6
      try clear hcz29_7
      try clear hcz29_8
      try clear hcz29_9
      try clear hcz38_0
      try clear hcz38_1
      try clear hcz38_10
      try clear hcz38_11
      try clear hcz38_12
      try clear hcz38_13
      try clear hcz38_14
      try clear hcz38_15
      try clear hcz38_2
      try clear hcz38_3
      try clear hcz38_4
      try clear hcz38_5
      try clear hcz38_6
      try clear hcz38_7
      try clear hcz38_8
      try clear hcz38_9
      try clear hcz39_0
      try clear hcz39_1
      try clear hcz39_10
      try clear hcz39_11
      try clear hcz39_12
      try clear hcz39_13
      try clear hcz39_14
      try clear hcz39_15
      try clear hcz39_2
      try clear hcz39_3
      try clear hcz39_4
      try clear hcz39_5
      try clear hcz39_6
      try clear hcz39_7
      try clear hcz39_8
      try clear hcz39_9
      try clear hcz41_0
      try clear hcz41_1
      try clear hcz41_10
      try clear hcz41_11
      try clear hcz41_12
      try clear hcz41_13
      try clear hcz41_14
      try clear hcz41_15
      try clear hcz41_2
      try clear hcz41_3
      try clear hcz41_4
      try clear hcz41_5
      try clear hcz41_6
      try clear hcz41_7
      try clear hcz41_8
      try clear hcz41_9
      try clear hcz42_0
      try clear hcz42_1
      try clear hcz42_10
      try clear hcz42_11
      try clear hcz42_12
      try clear hcz42_13
      try clear hcz42_14
      try clear hcz42_15
      try clear hcz42_2
      try clear hcz42_3
      try clear hcz42_4
      try clear hcz42_5
      try clear hcz42_6
      try clear hcz42_7
      try clear hcz42_8
      try clear hcz42_9
      try clear hcz44_0
      try clear hcz44_1
      try clear hcz44_10
      try clear hcz44_11
      try clear hcz44_12
      try clear hcz44_13
      try clear hcz44_14
      try clear hcz44_15
      try clear hcz44_2
      try clear hcz44_3
      try clear hcz44_4
      try clear hcz44_5
      try clear hcz44_6
      try clear hcz44_7
      try clear hcz44_8
      try clear hcz44_9
      try clear hcz45_0
      try clear hcz45_1
      try clear hcz45_10
      try clear hcz45_11
      try clear hcz45_12
      try clear hcz45_13
      try clear hcz45_14
      try clear hcz45_15
      try clear hcz45_2
      try clear hcz45_3
      try clear hcz45_4
      try clear hcz45_5
      try clear hcz45_6
      try clear hcz45_7
      try clear hcz45_8
      try clear hcz45_9
      try clear hcz47_0
      try clear hcz47_1
      try clear hcz47_10
      try clear hcz47_11
      try clear hcz47_12
      try clear hcz47_13
      try clear hcz47_14
      try clear hcz47_15
      try clear hcz47_2
      try clear hcz47_3
      try clear hcz47_4
      try clear hcz47_5
      try clear hcz47_6
      try clear hcz47_7
      try clear hcz47_8
      try clear hcz47_9
      try clear hcz48_0
      try clear hcz48_1
      try clear hcz48_10
      try clear hcz48_11
      try clear hcz48_12
      try clear hcz48_13
      try clear hcz48_14
      try clear hcz48_15
      try clear hcz48_2
      try clear hcz48_3
      try clear hcz48_4
      try clear hcz48_5
      try clear hcz48_6
      try clear hcz48_7
      try clear hcz48_8
      try clear hcz48_9
      try clear hcz50_0
      try clear hcz50_1
      try clear hcz50_10
      try clear hcz50_11
      try clear hcz50_12
      try clear hcz50_13
      try clear hcz50_14
      try clear hcz50_15
      try clear hcz50_2
      try clear hcz50_3
      try clear hcz50_4
      try clear hcz50_5
      try clear hcz50_6
      try clear hcz50_7
      try clear hcz50_8
      try clear hcz50_9
      try clear hcz51_0
      try clear hcz51_1
      try clear hcz51_10
      try clear hcz51_11
      try clear hcz51_12
      try clear hcz51_13
      try clear hcz51_14
      try clear hcz51_15
      try clear hcz51_2
      try clear hcz51_3
      try clear hcz51_4
      try clear hcz51_5
      try clear hcz51_6
      try clear hcz51_7
      try clear hcz51_8
      try clear hcz51_9
      try clear hcz53_0
      try clear hcz53_1
      try clear hcz53_10
      try clear hcz53_11
      try clear hcz53_12
      try clear hcz53_13
      try clear hcz53_14
      try clear hcz53_15
      try clear hcz53_2
      try clear hcz53_3
      try clear hcz53_4
      try clear hcz53_5
      try clear hcz53_6
      try clear hcz53_7
      try clear hcz53_8
      try clear hcz53_9
      try clear hcz54_0
      try clear hcz54_1
      try clear hcz54_10
      try clear hcz54_11
      try clear hcz54_12
      try clear hcz54_13
      try clear hcz54_14
      try clear hcz54_15
      try clear hcz54_2
      try clear hcz54_3
      try clear hcz54_4
      try clear hcz54_5
      try clear hcz54_6
      try clear hcz54_7
      try clear hcz54_8
      try clear hcz54_9
      try clear hcz6_0
      try clear hcz6_1
      try clear hcz6_10
      try clear hcz6_11
      try clear hcz6_12
      try clear hcz6_13
      try clear hcz6_14
      try clear hcz6_15
      try clear hcz6_2
      try clear hcz6_3
      try clear hcz6_4
      try clear hcz6_5
      try clear hcz6_6
      try clear hcz6_7
      try clear hcz6_8
      try clear hcz6_9
      try clear hcz9_0
      try clear hcz9_1
      try clear hcz9_10
      try clear hcz9_11
      try clear hcz9_12
      try clear hcz9_13
      try clear hcz9_14
      try clear hcz9_15
      try clear hcz9_2
      try clear hcz9_3
      try clear hcz9_4
      try clear hcz9_5
      try clear hcz9_6
      try clear hcz9_7
      try clear hcz9_8
      try clear hcz9_9
      try clear hfz11_0
      try clear hfz11_1
      try clear hfz11_10
      try clear hfz11_11
      try clear hfz11_12
      try clear hfz11_13
      try clear hfz11_14
      try clear hfz11_15
      try clear hfz11_2
      try clear hfz11_3
      try clear hfz11_4
      try clear hfz11_5
      try clear hfz11_6
      try clear hfz11_7
      try clear hfz11_8
      try clear hfz11_9
      try clear hfz12_0
      try clear hfz12_1
      try clear hfz12_10
      try clear hfz12_11
      try clear hfz12_12
      try clear hfz12_13
      try clear hfz12_14
      try clear hfz12_15
      try clear hfz12_2
      try clear hfz12_3
      try clear hfz12_4
      try clear hfz12_5
      try clear hfz12_6
      try clear hfz12_7
      try clear hfz12_8
      try clear hfz12_9
      try clear hfz15_0
      try clear hfz15_1
      try clear hfz15_10
      try clear hfz15_11
      try clear hfz15_12
      try clear hfz15_13
      try clear hfz15_14
      try clear hfz15_15
      try clear hfz15_2
      try clear hfz15_3
      try clear hfz15_4
      try clear hfz15_5
      try clear hfz15_6
      try clear hfz15_7
      try clear hfz15_8
      try clear hfz15_9
      try clear hfz18_0
      try clear hfz18_1
      try clear hfz18_10
      try clear hfz18_11
      try clear hfz18_12
      try clear hfz18_13
      try clear hfz18_14
      try clear hfz18_15
      try clear hfz18_2
      try clear hfz18_3
      try clear hfz18_4
      try clear hfz18_5
      try clear hfz18_6
      try clear hfz18_7
      try clear hfz18_8
      try clear hfz18_9
      try clear hfz20_0
      try clear hfz20_1
      try clear hfz20_10
      try clear hfz20_11
      try clear hfz20_12
      try clear hfz20_13
      try clear hfz20_14
      try clear hfz20_15
      try clear hfz20_2
      try clear hfz20_3
      try clear hfz20_4
      try clear hfz20_5
      try clear hfz20_6
      try clear hfz20_7
      try clear hfz20_8
      try clear hfz20_9
      try clear hfz21_0
      try clear hfz21_1
      try clear hfz21_10
      try clear hfz21_11
      try clear hfz21_12
      try clear hfz21_13
      try clear hfz21_14
      try clear hfz21_15
      try clear hfz21_2
      try clear hfz21_3
      try clear hfz21_4
      try clear hfz21_5
      try clear hfz21_6
      try clear hfz21_7
      try clear hfz21_8
      try clear hfz21_9
      try clear hfz24_0
      try clear hfz24_1
      try clear hfz24_10
      try clear hfz24_11
      try clear hfz24_12
      try clear hfz24_13
      try clear hfz24_14
      try clear hfz24_15
      try clear hfz24_2
      try clear hfz24_3
      try clear hfz24_4
      try clear hfz24_5
      try clear hfz24_6
      try clear hfz24_7
      try clear hfz24_8
      try clear hfz24_9
      try clear hfz27_0
      try clear hfz27_1
      try clear hfz27_10
      try clear hfz27_11
      try clear hfz27_12
      try clear hfz27_13
      try clear hfz27_14
      try clear hfz27_15
      try clear hfz27_2
      try clear hfz27_3
      try clear hfz27_4
      try clear hfz27_5
      try clear hfz27_6
      try clear hfz27_7
      try clear hfz27_8
      try clear hfz27_9
      try clear hfz29_0
      try clear hfz29_1
      try clear hfz29_10
      try clear hfz29_11
      try clear hfz29_12
      try clear hfz29_13
      try clear hfz29_14
      try clear hfz29_15
      try clear hfz29_2
      try clear hfz29_3
      try clear hfz29_4
      try clear hfz29_5
      try clear hfz29_6
      try clear hfz29_7
      try clear hfz29_8
      try clear hfz29_9
      try clear hfz38_0
      try clear hfz38_1
      try clear hfz38_10
      try clear hfz38_11
      try clear hfz38_12
      try clear hfz38_13
      try clear hfz38_14
      try clear hfz38_15
      try clear hfz38_2
      try clear hfz38_3
      try clear hfz38_4
      try clear hfz38_5
      try clear hfz38_6
      try clear hfz38_7
      try clear hfz38_8
      try clear hfz38_9
      try clear hfz39_0
      try clear hfz39_1
      try clear hfz39_10
      try clear hfz39_11
      try clear hfz39_12
      try clear hfz39_13
      try clear hfz39_14
      try clear hfz39_15
      try clear hfz39_2
      try clear hfz39_3
      try clear hfz39_4
      try clear hfz39_5
      try clear hfz39_6
      try clear hfz39_7
      try clear hfz39_8
      try clear hfz39_9
      try clear hfz41_0
      try clear hfz41_1
      try clear hfz41_10
      try clear hfz41_11
      try clear hfz41_12
      try clear hfz41_13
      try clear hfz41_14
      try clear hfz41_15
      try clear hfz41_2
      try clear hfz41_3
      try clear hfz41_4
      try clear hfz41_5
      try clear hfz41_6
      try clear hfz41_7
      try clear hfz41_8
      try clear hfz41_9
      try clear hfz42_0
      try clear hfz42_1
      try clear hfz42_10
      try clear hfz42_11
      try clear hfz42_12
      try clear hfz42_13
      try clear hfz42_14
      try clear hfz42_15
      try clear hfz42_2
      try clear hfz42_3
      try clear hfz42_4
      try clear hfz42_5
      try clear hfz42_6
      try clear hfz42_7
      try clear hfz42_8
      try clear hfz42_9
      try clear hfz44_0
      try clear hfz44_1
      try clear hfz44_10
      try clear hfz44_11
      try clear hfz44_12
      try clear hfz44_13
      try clear hfz44_14
      try clear hfz44_15
      try clear hfz44_2
      try clear hfz44_3
      try clear hfz44_4
      try clear hfz44_5
      try clear hfz44_6
      try clear hfz44_7
      try clear hfz44_8
      try clear hfz44_9
      try clear hfz45_0
      try clear hfz45_1
      try clear hfz45_10
      try clear hfz45_11
      try clear hfz45_12
      try clear hfz45_13
      try clear hfz45_14
      try clear hfz45_15
      try clear hfz45_2
      try clear hfz45_3
      try clear hfz45_4
      try clear hfz45_5
      try clear hfz45_6
      try clear hfz45_7
      try clear hfz45_8
      try clear hfz45_9
      try clear hfz47_0
      try clear hfz47_1
      try clear hfz47_10
      try clear hfz47_11
      try clear hfz47_12
      try clear hfz47_13
      try clear hfz47_14
      try clear hfz47_15
      try clear hfz47_2
      try clear hfz47_3
      try clear hfz47_4
      try clear hfz47_5
      try clear hfz47_6
      try clear hfz47_7
      try clear hfz47_8
      try clear hfz47_9
      try clear hfz48_0
      try clear hfz48_1
      try clear hfz48_10
      try clear hfz48_11
      try clear hfz48_12
      try clear hfz48_13
      try clear hfz48_14
      try clear hfz48_15
      try clear hfz48_2
      try clear hfz48_3
      try clear hfz48_4
      try clear hfz48_5
      try clear hfz48_6
      try clear hfz48_7
      try clear hfz48_8
      try clear hfz48_9
      try clear hfz50_0
      try clear hfz50_1
      try clear hfz50_10
      try clear hfz50_11
      try clear hfz50_12
      try clear hfz50_13
      try clear hfz50_14
      try clear hfz50_15
      try clear hfz50_2
      try clear hfz50_3
      try clear hfz50_4
      try clear hfz50_5
      try clear hfz50_6
      try clear hfz50_7
      try clear hfz50_8
      try clear hfz50_9
      try clear hfz51_0
      try clear hfz51_1
      try clear hfz51_10
      try clear hfz51_11
      try clear hfz51_12
      try clear hfz51_13
      try clear hfz51_14
      try clear hfz51_15
      try clear hfz51_2
      try clear hfz51_3
      try clear hfz51_4
      try clear hfz51_5
      try clear hfz51_6
      try clear hfz51_7
      try clear hfz51_8
      try clear hfz51_9
      try clear hfz53_0
      try clear hfz53_1
      try clear hfz53_10
      try clear hfz53_11
      try clear hfz53_12
      try clear hfz53_13
      try clear hfz53_14
      try clear hfz53_15
      try clear hfz53_2
      try clear hfz53_3
      try clear hfz53_4
      try clear hfz53_5
      try clear hfz53_6
      try clear hfz53_7
      try clear hfz53_8
      try clear hfz53_9
      try clear hfz54_0
      try clear hfz54_1
      try clear hfz54_10
      try clear hfz54_11
      try clear hfz54_12
      try clear hfz54_13
      try clear hfz54_14
      try clear hfz54_15
      try clear hfz54_2
      try clear hfz54_3
      try clear hfz54_4
      try clear hfz54_5
      try clear hfz54_6
      try clear hfz54_7
      try clear hfz54_8
      try clear hfz54_9
      try clear hfz6_0
      try clear hfz6_1
      try clear hfz6_10
      try clear hfz6_11
      try clear hfz6_12
      try clear hfz6_13
      try clear hfz6_14
      try clear hfz6_15
      try clear hfz6_2
      try clear hfz6_3
      try clear hfz6_4
      try clear hfz6_5
      try clear hfz6_6
      try clear hfz6_7
      try clear hfz6_8
      try clear hfz6_9
      try clear hfz9_0
      try clear hfz9_1
      try clear hfz9_10
      try clear hfz9_11
      try clear hfz9_12
      try clear hfz9_13
      try clear hfz9_14
      try clear hfz9_15
      try clear hfz9_2
      try clear hfz9_3
      try clear hfz9_4
      try clear hfz9_5
      try clear hfz9_6
      try clear hfz9_7
      try clear hfz9_8
      try clear hfz9_9
      try clear p1
      try clear p16
      try clear p2
      obtain ⟨kq, x48_54, rfl, HA, HJ54, BK278, BK279, HB⟩ := hcut
      cases kq with
      | zero => exact absurd HA.out (by simp [paybooklaw10_right.j1])
      | succ kj54 =>
       have H := HA.out
       clear HA
       simp only [paybooklaw10_right.j1] at H
       by_cases c60 : x48_54 = true
       ·subst c60
        have H1 : (if a0_1 ≥ 0 then (if a0_1 < 32 then (if (a0_0 == a0_0 && (a0_2 == 0 && (a0_3 == 0 && ((a0_4 == 0 && (a0_5 == 0 && (a0_6 == 0 && (a0_7 == 0 && (a0_8 == false && (a0_9 == false)))))) && ((a0_10 == 0 && (a0_11 == 0 && (a0_12 == 0 && (a0_13 == 0 && (a0_14 == 0 && (a0_15 == 0))))))))))) = true then (some 0) else (some 1)) else (some 1)) else (some 1)) = some r := by rw [if_pos rfl] at H; try exact H
        clear H
        have H := H1
        clear H1
        by_cases c61 : a0_1 ≥ 0
        ·rw [if_pos c61] at H
         have c61b0 : decide (0 ≤ a0_1) = true := decide_eq_true c61
         clear c61
         by_cases c62 : a0_1 < 32
         ·rw [if_pos c62] at H
          have c62b0 : decide (a0_1 < 32) = true := decide_eq_true c62
          clear c62
          by_cases c63 : (a0_0 == a0_0 && (a0_2 == 0 && (a0_3 == 0 && ((a0_4 == 0 && (a0_5 == 0 && (a0_6 == 0 && (a0_7 == 0 && (a0_8 == false && (a0_9 == false)))))) && ((a0_10 == 0 && (a0_11 == 0 && (a0_12 == 0 && (a0_13 == 0 && (a0_14 == 0 && (a0_15 == 0))))))))))) = true
          ·rw [if_pos c63] at H
           have c63b0 : (a0_0 == a0_0 && (a0_2 == 0 && (a0_3 == 0 && ((a0_4 == 0 && (a0_5 == 0 && (a0_6 == 0 && (a0_7 == 0 && (a0_8 == false && (a0_9 == false)))))) && ((a0_10 == 0 && (a0_11 == 0 && (a0_12 == 0 && (a0_13 == 0 && (a0_14 == 0 && (a0_15 == 0))))))))))) = true := c63
           (try (have c63b1 : decide (a0_0 = a0_0 && (a0_2 == 0 && (a0_3 == 0 && ((a0_4 == 0 && (a0_5 == 0 && (a0_6 == 0 && (a0_7 == 0 && (a0_8 == false && (a0_9 == false)))))) && ((a0_10 == 0 && (a0_11 == 0 && (a0_12 == 0 && (a0_13 == 0 && (a0_14 == 0 && (a0_15 == 0))))))))))) = true := by simpa using c63))
           (try (have c63b2 : (a0_0 == a0_0 && (a0_2 == 0 && (a0_3 == 0 && ((a0_4 == 0 && (a0_5 == 0 && (a0_6 == 0 && (a0_7 == 0 && (a0_8 == false && (a0_9 == false)))))) && ((a0_10 == 0 && (a0_11 == 0 && (a0_12 == 0 && (a0_13 == 0 && (a0_14 == 0 && (a0_15 == 0))))))))))) = true := by simpa using c63))
           clear c63
           (try (have c63b0z_ := c63b0; simp only [beq_true, beq_false, true_beq, false_beq, Bool.not_eq_true', Bool.not_eq_false', Bool.not_true, Bool.not_false] at c63b0z_)); (try (have c63b0y_ := c63b0; simp only [beq_self_eq_true, Bool.true_and, beq_false, beq_true, Bool.eq_false_iff, ne_eq, Bool.and_eq_true] at c63b0y_))
           obtain rfl := Option.some.inj H
           have hnb64 := NB278_279.out
           have hnc64 := NB279_278.out
           obtain ⟨hcz65_0, hcz65_1, hcz65_2, hcz65_3, hcz65_4, hcz65_5, hcz65_6, hcz65_7, hcz65_8, hcz65_9, hcz65_10, hcz65_11, hcz65_12, hcz65_13, hcz65_14, hcz65_15, hfz65_0, hfz65_1, hfz65_2, hfz65_3, hfz65_4, hfz65_5, hfz65_6, hfz65_7, hfz65_8, hfz65_9, hfz65_10, hfz65_11, hfz65_12, hfz65_13, hfz65_14, hfz65_15⟩ := bxc16 BK278.out
           obtain ⟨hcz66_0, hcz66_1, hcz66_2, hcz66_3, hcz66_4, hcz66_5, hcz66_6, hcz66_7, hcz66_8, hcz66_9, hcz66_10, hcz66_11, hcz66_12, hcz66_13, hcz66_14, hcz66_15, hfz66_0, hfz66_1, hfz66_2, hfz66_3, hfz66_4, hfz66_5, hfz66_6, hfz66_7, hfz66_8, hfz66_9, hfz66_10, hfz66_11, hfz66_12, hfz66_13, hfz66_14, hfz66_15⟩ := bxc16 BK279.out
           go_wp2_with (first | ((with_reducible refine gate_dst (N := 112) rfl ?_); (refine gate_guard (by rfl) ?_; dsimp only); refine wpList_load_row rfl 27 (.tmp 1) rfl gb278 rfl 27 #[.int .u8 a0_0, .int .i64 a0_1, .int .i64 a0_2, .int .i64 a0_3, .int .i64 a0_4, .int .u8 a0_5, .int .i64 a0_6, .int .i64 a0_7, .bool a0_8, .bool a0_9, .int .u8 a0_10, .int .i64 a0_11, .int .i64 a0_12, .int .i64 a0_13, .int .i64 a0_14, .int .u8 a0_15] (0, 0) _ (by (with_reducible repeat (first | refine kN ?_ _ | refine kD ?_ | refine kA ?_ _ | refine kR ?_ NB278_279.out _)); (with_reducible repeat (first | refine kN ?_ _ | refine kD ?_ | refine kA ?_ _)); exact BK278.out) Try.underlying27 rfl (by kernel_rfl) ?_) | ((with_reducible refine gate_dst (N := 113) rfl ?_); (refine gate_guard (by rfl) ?_; dsimp only); refine wpList_load_row rfl 27 (.tmp 3) rfl gb279 rfl 27 #[.int .u8 a0_0, .int .i64 a0_1, .int .i64 0, .int .i64 0, .int .i64 0, .int .u8 0, .int .i64 0, .int .i64 0, .bool false, .bool false, .int .u8 0, .int .i64 0, .int .i64 0, .int .i64 0, .int .i64 0, .int .u8 0] (0, 0) _ (by (with_reducible repeat (first | refine kN ?_ _ | refine kD ?_ | refine kA ?_ _)); refine bxp16_1 (o := .int .i64 0) ?_; (with_reducible repeat (first | refine kN ?_ _ | refine kD ?_ | refine kA ?_ _)); exact BK279.out) Try.underlying27 rfl (by kernel_rfl) ?_))
           go_ret
           exact ⟨by first | rfl | (simp [errW_none, errW_some] <;> rfl) | (simp [*, errW_none, errW_some] <;> rfl), by repeat (first | (with_reducible first | exact HB.out | apply kL | apply kM | apply kE | refine kS ?_ GE278.out | refine kS ?_ GE279.out) | exact HB.out)⟩
          ·rw [if_neg c63] at H
           have c63b0 : (a0_0 == a0_0 && (a0_2 == 0 && (a0_3 == 0 && ((a0_4 == 0 && (a0_5 == 0 && (a0_6 == 0 && (a0_7 == 0 && (a0_8 == false && (a0_9 == false)))))) && ((a0_10 == 0 && (a0_11 == 0 && (a0_12 == 0 && (a0_13 == 0 && (a0_14 == 0 && (a0_15 == 0))))))))))) = false := by simpa using c63
           (try (have c63b1 : decide (a0_0 = a0_0 && (a0_2 == 0 && (a0_3 == 0 && ((a0_4 == 0 && (a0_5 == 0 && (a0_6 == 0 && (a0_7 == 0 && (a0_8 == false && (a0_9 == false)))))) && ((a0_10 == 0 && (a0_11 == 0 && (a0_12 == 0 && (a0_13 == 0 && (a0_14 == 0 && (a0_15 == 0))))))))))) = false := by simpa using c63))
           (try (have c63b2 : (a0_0 == a0_0 && (a0_2 == 0 && (a0_3 == 0 && ((a0_4 == 0 && (a0_5 == 0 && (a0_6 == 0 && (a0_7 == 0 && (a0_8 == false && (a0_9 == false)))))) && ((a0_10 == 0 && (a0_11 == 0 && (a0_12 == 0 && (a0_13 == 0 && (a0_14 == 0 && (a0_15 == 0))))))))))) = false := by simpa using c63))
           (try (have c63b3 : ¬ (a0_0 = a0_0 && (a0_2 == 0 && (a0_3 == 0 && ((a0_4 == 0 && (a0_5 == 0 && (a0_6 == 0 && (a0_7 == 0 && (a0_8 == false && (a0_9 == false)))))) && ((a0_10 == 0 && (a0_11 == 0 && (a0_12 == 0 && (a0_13 == 0 && (a0_14 == 0 && (a0_15 == 0))))))))))) := by simpa using c63))
           clear c63
           (try (have c63b0z_ := c63b0; simp only [beq_true, beq_false, true_beq, false_beq, Bool.not_eq_true', Bool.not_eq_false', Bool.not_true, Bool.not_false] at c63b0z_)); (try (have c63b0y_ := c63b0; simp only [beq_self_eq_true, Bool.true_and, beq_false, beq_true, Bool.eq_false_iff, ne_eq, Bool.and_eq_true] at c63b0y_))
           obtain rfl := Option.some.inj H
           have hnb67 := NB278_279.out
           have hnc67 := NB279_278.out
           obtain ⟨hcz68_0, hcz68_1, hcz68_2, hcz68_3, hcz68_4, hcz68_5, hcz68_6, hcz68_7, hcz68_8, hcz68_9, hcz68_10, hcz68_11, hcz68_12, hcz68_13, hcz68_14, hcz68_15, hfz68_0, hfz68_1, hfz68_2, hfz68_3, hfz68_4, hfz68_5, hfz68_6, hfz68_7, hfz68_8, hfz68_9, hfz68_10, hfz68_11, hfz68_12, hfz68_13, hfz68_14, hfz68_15⟩ := bxc16 BK278.out
           obtain ⟨hcz69_0, hcz69_1, hcz69_2, hcz69_3, hcz69_4, hcz69_5, hcz69_6, hcz69_7, hcz69_8, hcz69_9, hcz69_10, hcz69_11, hcz69_12, hcz69_13, hcz69_14, hcz69_15, hfz69_0, hfz69_1, hfz69_2, hfz69_3, hfz69_4, hfz69_5, hfz69_6, hfz69_7, hfz69_8, hfz69_9, hfz69_10, hfz69_11, hfz69_12, hfz69_13, hfz69_14, hfz69_15⟩ := bxc16 BK279.out
           go_wp2_with (first | ((with_reducible refine gate_dst (N := 112) rfl ?_); (refine gate_guard (by rfl) ?_; dsimp only); refine wpList_load_row rfl 27 (.tmp 1) rfl gb278 rfl 27 #[.int .u8 a0_0, .int .i64 a0_1, .int .i64 a0_2, .int .i64 a0_3, .int .i64 a0_4, .int .u8 a0_5, .int .i64 a0_6, .int .i64 a0_7, .bool a0_8, .bool a0_9, .int .u8 a0_10, .int .i64 a0_11, .int .i64 a0_12, .int .i64 a0_13, .int .i64 a0_14, .int .u8 a0_15] (0, 0) _ (by (with_reducible repeat (first | refine kN ?_ _ | refine kD ?_ | refine kA ?_ _ | refine kR ?_ NB278_279.out _)); (with_reducible repeat (first | refine kN ?_ _ | refine kD ?_ | refine kA ?_ _)); exact BK278.out) Try.underlying27 rfl (by kernel_rfl) ?_) | ((with_reducible refine gate_dst (N := 113) rfl ?_); (refine gate_guard (by rfl) ?_; dsimp only); refine wpList_load_row rfl 27 (.tmp 3) rfl gb279 rfl 27 #[.int .u8 a0_0, .int .i64 a0_1, .int .i64 0, .int .i64 0, .int .i64 0, .int .u8 0, .int .i64 0, .int .i64 0, .bool false, .bool false, .int .u8 0, .int .i64 0, .int .i64 0, .int .i64 0, .int .i64 0, .int .u8 0] (0, 0) _ (by (with_reducible repeat (first | refine kN ?_ _ | refine kD ?_ | refine kA ?_ _)); refine bxp16_1 (o := .int .i64 0) ?_; (with_reducible repeat (first | refine kN ?_ _ | refine kD ?_ | refine kA ?_ _)); exact BK279.out) Try.underlying27 rfl (by kernel_rfl) ?_))
           go_ret
           exact ⟨by first | rfl | (simp [errW_none, errW_some] <;> rfl) | (simp [*, errW_none, errW_some] <;> rfl), by repeat (first | (with_reducible first | exact HB.out | apply kL | apply kM | apply kE | refine kS ?_ GE278.out | refine kS ?_ GE279.out) | exact HB.out)⟩
         ·rw [if_neg c62] at H
          have c62b0 : decide (a0_1 < 32) = false := decide_eq_false c62
          clear c62
          obtain rfl := Option.some.inj H
          have hnb70 := NB278_279.out
          have hnc70 := NB279_278.out
          obtain ⟨hcz71_0, hcz71_1, hcz71_2, hcz71_3, hcz71_4, hcz71_5, hcz71_6, hcz71_7, hcz71_8, hcz71_9, hcz71_10, hcz71_11, hcz71_12, hcz71_13, hcz71_14, hcz71_15, hfz71_0, hfz71_1, hfz71_2, hfz71_3, hfz71_4, hfz71_5, hfz71_6, hfz71_7, hfz71_8, hfz71_9, hfz71_10, hfz71_11, hfz71_12, hfz71_13, hfz71_14, hfz71_15⟩ := bxc16 BK278.out
          obtain ⟨hcz72_0, hcz72_1, hcz72_2, hcz72_3, hcz72_4, hcz72_5, hcz72_6, hcz72_7, hcz72_8, hcz72_9, hcz72_10, hcz72_11, hcz72_12, hcz72_13, hcz72_14, hcz72_15, hfz72_0, hfz72_1, hfz72_2, hfz72_3, hfz72_4, hfz72_5, hfz72_6, hfz72_7, hfz72_8, hfz72_9, hfz72_10, hfz72_11, hfz72_12, hfz72_13, hfz72_14, hfz72_15⟩ := bxc16 BK279.out
          go_wp2
          go_ret
          exact ⟨by first | rfl | (simp [errW_none, errW_some] <;> rfl) | (simp [*, errW_none, errW_some] <;> rfl), by repeat (first | (with_reducible first | exact HB.out | apply kL | apply kM | apply kE | refine kS ?_ GE278.out | refine kS ?_ GE279.out) | exact HB.out)⟩
        ·rw [if_neg c61] at H
         have c61b0 : decide (0 ≤ a0_1) = false := decide_eq_false c61
         clear c61
         obtain rfl := Option.some.inj H
         have hnb73 := NB278_279.out
         have hnc73 := NB279_278.out
         obtain ⟨hcz74_0, hcz74_1, hcz74_2, hcz74_3, hcz74_4, hcz74_5, hcz74_6, hcz74_7, hcz74_8, hcz74_9, hcz74_10, hcz74_11, hcz74_12, hcz74_13, hcz74_14, hcz74_15, hfz74_0, hfz74_1, hfz74_2, hfz74_3, hfz74_4, hfz74_5, hfz74_6, hfz74_7, hfz74_8, hfz74_9, hfz74_10, hfz74_11, hfz74_12, hfz74_13, hfz74_14, hfz74_15⟩ := bxc16 BK278.out
         obtain ⟨hcz75_0, hcz75_1, hcz75_2, hcz75_3, hcz75_4, hcz75_5, hcz75_6, hcz75_7, hcz75_8, hcz75_9, hcz75_10, hcz75_11, hcz75_12, hcz75_13, hcz75_14, hcz75_15, hfz75_0, hfz75_1, hfz75_2, hfz75_3, hfz75_4, hfz75_5, hfz75_6, hfz75_7, hfz75_8, hfz75_9, hfz75_10, hfz75_11, hfz75_12, hfz75_13, hfz75_14, hfz75_15⟩ := bxc16 BK279.out
         go_wp2
         go_ret
         exact ⟨by first | rfl | (simp [errW_none, errW_some] <;> rfl) | (simp [*, errW_none, errW_some] <;> rfl), by repeat (first | (with_reducible first | exact HB.out | apply kL | apply kM | apply kE | refine kS ?_ GE278.out | refine kS ?_ GE279.out) | exact HB.out)⟩
       ·replace c60 := Bool.eq_false_iff.mpr c60
        subst c60
        have H1 : (if a0_0 = 9 then (if a0_3 ≥ 1 then (if a0_3 ≤ 60 then (if (a0_0 == a0_0 && (a0_1 == 0 && (a0_2 == 0 && ((a0_4 == 0 && (a0_5 == 0 && (a0_6 == 0 && (a0_7 == 0 && (a0_8 == false && (a0_9 == false)))))) && ((a0_10 == 0 && (a0_11 == 0 && (a0_12 == 0 && (a0_13 == 0 && (a0_14 == 0 && (a0_15 == 0))))))))))) = true then (some 0) else (some 1)) else (some 1)) else (some 1)) else (if a0_0 = 10 then ((paybooklaw10_key.f a0_10 a0_11 a0_12 a0_13 a0_14 a0_15).bind fun t281 => (if t281 = true then (if a0_10 ≥ 1 then (if a0_10 ≤ 5 then (if a0_15 ≥ 1 then (if a0_15 ≤ 3 then (if (a0_0 == a0_0 && (a0_1 == 0 && (a0_2 == 0 && (a0_3 == 0 && ((a0_4 == 0 && (a0_5 == 0 && (a0_6 == 0 && (a0_7 == 0 && (a0_8 == false && (a0_9 == false))))))))))) = true then (some 0) else (some 1)) else (some 1)) else (some 1)) else (some 1)) else (some 1)) else (some 1))) else (if false = true then (if (a0_0 == a0_0 && (a0_1 == 0 && (a0_2 == 0 && (a0_3 == 0 && ((a0_4 == 0 && (a0_5 == 0 && (a0_6 == 0 && (a0_7 == 0 && (a0_8 == false && (a0_9 == false)))))) && ((a0_10 == 0 && (a0_11 == 0 && (a0_12 == 0 && (a0_13 == 0 && (a0_14 == 0 && (a0_15 == 0)))))))))))) = true then (some 0) else (some 1)) else (some 1)))) = some r := by rw [if_neg (show ¬ (false = true) by decide)] at H; try exact H
        clear H
        have H := H1
        clear H1
        by_cases c76 : a0_0 = 9
        ·rw [if_pos c76] at H
         have c76b0 : (a0_0 == 9) = true := beq_iff_eq.mpr c76
         have c76b1 : (a0_0 != 9) = false := bne_eq_false_iff_eq.mpr c76
         clear c76
         by_cases c77 : a0_3 ≥ 1
         ·rw [if_pos c77] at H
          have c77b0 : decide (1 ≤ a0_3) = true := decide_eq_true c77
          clear c77
          by_cases c78 : a0_3 ≤ 60
          ·rw [if_pos c78] at H
           have c78b0 : decide (a0_3 ≤ 60) = true := decide_eq_true c78
           clear c78
           by_cases c79 : (a0_0 == a0_0 && (a0_1 == 0 && (a0_2 == 0 && ((a0_4 == 0 && (a0_5 == 0 && (a0_6 == 0 && (a0_7 == 0 && (a0_8 == false && (a0_9 == false)))))) && ((a0_10 == 0 && (a0_11 == 0 && (a0_12 == 0 && (a0_13 == 0 && (a0_14 == 0 && (a0_15 == 0))))))))))) = true
           ·rw [if_pos c79] at H
            have c79b0 : (a0_0 == a0_0 && (a0_1 == 0 && (a0_2 == 0 && ((a0_4 == 0 && (a0_5 == 0 && (a0_6 == 0 && (a0_7 == 0 && (a0_8 == false && (a0_9 == false)))))) && ((a0_10 == 0 && (a0_11 == 0 && (a0_12 == 0 && (a0_13 == 0 && (a0_14 == 0 && (a0_15 == 0))))))))))) = true := c79
            (try (have c79b1 : decide (a0_0 = a0_0 && (a0_1 == 0 && (a0_2 == 0 && ((a0_4 == 0 && (a0_5 == 0 && (a0_6 == 0 && (a0_7 == 0 && (a0_8 == false && (a0_9 == false)))))) && ((a0_10 == 0 && (a0_11 == 0 && (a0_12 == 0 && (a0_13 == 0 && (a0_14 == 0 && (a0_15 == 0))))))))))) = true := by simpa using c79))
            (try (have c79b2 : (a0_0 == a0_0 && (a0_1 == 0 && (a0_2 == 0 && ((a0_4 == 0 && (a0_5 == 0 && (a0_6 == 0 && (a0_7 == 0 && (a0_8 == false && (a0_9 == false)))))) && ((a0_10 == 0 && (a0_11 == 0 && (a0_12 == 0 && (a0_13 == 0 && (a0_14 == 0 && (a0_15 == 0))))))))))) = true := by simpa using c79))
            clear c79
            (try (have c79b0z_ := c79b0; simp only [beq_true, beq_false, true_beq, false_beq, Bool.not_eq_true', Bool.not_eq_false', Bool.not_true, Bool.not_false] at c79b0z_)); (try (have c79b0y_ := c79b0; simp only [beq_self_eq_true, Bool.true_and, beq_false, beq_true, Bool.eq_false_iff, ne_eq, Bool.and_eq_true] at c79b0y_))
            obtain rfl := Option.some.inj H
            have hnb80 := NB278_279.out
            have hnc80 := NB279_278.out
            obtain ⟨hcz81_0, hcz81_1, hcz81_2, hcz81_3, hcz81_4, hcz81_5, hcz81_6, hcz81_7, hcz81_8, hcz81_9, hcz81_10, hcz81_11, hcz81_12, hcz81_13, hcz81_14, hcz81_15, hfz81_0, hfz81_1, hfz81_2, hfz81_3, hfz81_4, hfz81_5, hfz81_6, hfz81_7, hfz81_8, hfz81_9, hfz81_10, hfz81_11, hfz81_12, hfz81_13, hfz81_14, hfz81_15⟩ := bxc16 BK278.out
            obtain ⟨hcz82_0, hcz82_1, hcz82_2, hcz82_3, hcz82_4, hcz82_5, hcz82_6, hcz82_7, hcz82_8, hcz82_9, hcz82_10, hcz82_11, hcz82_12, hcz82_13, hcz82_14, hcz82_15, hfz82_0, hfz82_1, hfz82_2, hfz82_3, hfz82_4, hfz82_5, hfz82_6, hfz82_7, hfz82_8, hfz82_9, hfz82_10, hfz82_11, hfz82_12, hfz82_13, hfz82_14, hfz82_15⟩ := bxc16 BK279.out
            go_wp2_with (first | ((with_reducible refine gate_dst (N := 112) rfl ?_); (refine gate_guard (by rfl) ?_; dsimp only); refine wpList_load_row rfl 27 (.tmp 1) rfl gb278 rfl 27 #[.int .u8 a0_0, .int .i64 a0_1, .int .i64 a0_2, .int .i64 a0_3, .int .i64 a0_4, .int .u8 a0_5, .int .i64 a0_6, .int .i64 a0_7, .bool a0_8, .bool a0_9, .int .u8 a0_10, .int .i64 a0_11, .int .i64 a0_12, .int .i64 a0_13, .int .i64 a0_14, .int .u8 a0_15] (0, 0) _ (by (with_reducible repeat (first | refine kN ?_ _ | refine kD ?_ | refine kA ?_ _ | refine kR ?_ NB278_279.out _)); (with_reducible repeat (first | refine kN ?_ _ | refine kD ?_ | refine kA ?_ _)); exact BK278.out) Try.underlying27 rfl (by kernel_rfl) ?_) | ((with_reducible refine gate_dst (N := 113) rfl ?_); (refine gate_guard (by rfl) ?_; dsimp only); refine wpList_load_row rfl 27 (.tmp 3) rfl gb279 rfl 27 #[.int .u8 a0_0, .int .i64 0, .int .i64 0, .int .i64 a0_3, .int .i64 0, .int .u8 0, .int .i64 0, .int .i64 0, .bool false, .bool false, .int .u8 0, .int .i64 0, .int .i64 0, .int .i64 0, .int .i64 0, .int .u8 0] (0, 0) _ (by (with_reducible repeat (first | refine kN ?_ _ | refine kD ?_ | refine kA ?_ _)); refine bxp16_3 (o := .int .i64 0) ?_; (with_reducible repeat (first | refine kN ?_ _ | refine kD ?_ | refine kA ?_ _)); exact BK279.out) Try.underlying27 rfl (by kernel_rfl) ?_))
            go_ret
            exact ⟨by first | rfl | (simp [errW_none, errW_some] <;> rfl) | (simp [*, errW_none, errW_some] <;> rfl), by repeat (first | (with_reducible first | exact HB.out | apply kL | apply kM | apply kE | refine kS ?_ GE278.out | refine kS ?_ GE279.out) | exact HB.out)⟩
           ·rw [if_neg c79] at H
            have c79b0 : (a0_0 == a0_0 && (a0_1 == 0 && (a0_2 == 0 && ((a0_4 == 0 && (a0_5 == 0 && (a0_6 == 0 && (a0_7 == 0 && (a0_8 == false && (a0_9 == false)))))) && ((a0_10 == 0 && (a0_11 == 0 && (a0_12 == 0 && (a0_13 == 0 && (a0_14 == 0 && (a0_15 == 0))))))))))) = false := by simpa using c79
            (try (have c79b1 : decide (a0_0 = a0_0 && (a0_1 == 0 && (a0_2 == 0 && ((a0_4 == 0 && (a0_5 == 0 && (a0_6 == 0 && (a0_7 == 0 && (a0_8 == false && (a0_9 == false)))))) && ((a0_10 == 0 && (a0_11 == 0 && (a0_12 == 0 && (a0_13 == 0 && (a0_14 == 0 && (a0_15 == 0))))))))))) = false := by simpa using c79))
            (try (have c79b2 : (a0_0 == a0_0 && (a0_1 == 0 && (a0_2 == 0 && ((a0_4 == 0 && (a0_5 == 0 && (a0_6 == 0 && (a0_7 == 0 && (a0_8 == false && (a0_9 == false)))))) && ((a0_10 == 0 && (a0_11 == 0 && (a0_12 == 0 && (a0_13 == 0 && (a0_14 == 0 && (a0_15 == 0))))))))))) = false := by simpa using c79))
            (try (have c79b3 : ¬ (a0_0 = a0_0 && (a0_1 == 0 && (a0_2 == 0 && ((a0_4 == 0 && (a0_5 == 0 && (a0_6 == 0 && (a0_7 == 0 && (a0_8 == false && (a0_9 == false)))))) && ((a0_10 == 0 && (a0_11 == 0 && (a0_12 == 0 && (a0_13 == 0 && (a0_14 == 0 && (a0_15 == 0))))))))))) := by simpa using c79))
            clear c79
            (try (have c79b0z_ := c79b0; simp only [beq_true, beq_false, true_beq, false_beq, Bool.not_eq_true', Bool.not_eq_false', Bool.not_true, Bool.not_false] at c79b0z_)); (try (have c79b0y_ := c79b0; simp only [beq_self_eq_true, Bool.true_and, beq_false, beq_true, Bool.eq_false_iff, ne_eq, Bool.and_eq_true] at c79b0y_))
            obtain rfl := Option.some.inj H
            have hnb83 := NB278_279.out
            have hnc83 := NB279_278.out
            obtain ⟨hcz84_0, hcz84_1, hcz84_2, hcz84_3, hcz84_4, hcz84_5, hcz84_6, hcz84_7, hcz84_8, hcz84_9, hcz84_10, hcz84_11, hcz84_12, hcz84_13, hcz84_14, hcz84_15, hfz84_0, hfz84_1, hfz84_2, hfz84_3, hfz84_4, hfz84_5, hfz84_6, hfz84_7, hfz84_8, hfz84_9, hfz84_10, hfz84_11, hfz84_12, hfz84_13, hfz84_14, hfz84_15⟩ := bxc16 BK278.out
            obtain ⟨hcz85_0, hcz85_1, hcz85_2, hcz85_3, hcz85_4, hcz85_5, hcz85_6, hcz85_7, hcz85_8, hcz85_9, hcz85_10, hcz85_11, hcz85_12, hcz85_13, hcz85_14, hcz85_15, hfz85_0, hfz85_1, hfz85_2, hfz85_3, hfz85_4, hfz85_5, hfz85_6, hfz85_7, hfz85_8, hfz85_9, hfz85_10, hfz85_11, hfz85_12, hfz85_13, hfz85_14, hfz85_15⟩ := bxc16 BK279.out
            go_wp2_with (first | ((with_reducible refine gate_dst (N := 112) rfl ?_); (refine gate_guard (by rfl) ?_; dsimp only); refine wpList_load_row rfl 27 (.tmp 1) rfl gb278 rfl 27 #[.int .u8 a0_0, .int .i64 a0_1, .int .i64 a0_2, .int .i64 a0_3, .int .i64 a0_4, .int .u8 a0_5, .int .i64 a0_6, .int .i64 a0_7, .bool a0_8, .bool a0_9, .int .u8 a0_10, .int .i64 a0_11, .int .i64 a0_12, .int .i64 a0_13, .int .i64 a0_14, .int .u8 a0_15] (0, 0) _ (by (with_reducible repeat (first | refine kN ?_ _ | refine kD ?_ | refine kA ?_ _ | refine kR ?_ NB278_279.out _)); (with_reducible repeat (first | refine kN ?_ _ | refine kD ?_ | refine kA ?_ _)); exact BK278.out) Try.underlying27 rfl (by kernel_rfl) ?_) | ((with_reducible refine gate_dst (N := 113) rfl ?_); (refine gate_guard (by rfl) ?_; dsimp only); refine wpList_load_row rfl 27 (.tmp 3) rfl gb279 rfl 27 #[.int .u8 a0_0, .int .i64 0, .int .i64 0, .int .i64 a0_3, .int .i64 0, .int .u8 0, .int .i64 0, .int .i64 0, .bool false, .bool false, .int .u8 0, .int .i64 0, .int .i64 0, .int .i64 0, .int .i64 0, .int .u8 0] (0, 0) _ (by (with_reducible repeat (first | refine kN ?_ _ | refine kD ?_ | refine kA ?_ _)); refine bxp16_3 (o := .int .i64 0) ?_; (with_reducible repeat (first | refine kN ?_ _ | refine kD ?_ | refine kA ?_ _)); exact BK279.out) Try.underlying27 rfl (by kernel_rfl) ?_))
            go_ret
            exact ⟨by first | rfl | (simp [errW_none, errW_some] <;> rfl) | (simp [*, errW_none, errW_some] <;> rfl), by repeat (first | (with_reducible first | exact HB.out | apply kL | apply kM | apply kE | refine kS ?_ GE278.out | refine kS ?_ GE279.out) | exact HB.out)⟩
          ·rw [if_neg c78] at H
           have c78b0 : decide (a0_3 ≤ 60) = false := decide_eq_false c78
           clear c78
           obtain rfl := Option.some.inj H
           have hnb86 := NB278_279.out
           have hnc86 := NB279_278.out
           obtain ⟨hcz87_0, hcz87_1, hcz87_2, hcz87_3, hcz87_4, hcz87_5, hcz87_6, hcz87_7, hcz87_8, hcz87_9, hcz87_10, hcz87_11, hcz87_12, hcz87_13, hcz87_14, hcz87_15, hfz87_0, hfz87_1, hfz87_2, hfz87_3, hfz87_4, hfz87_5, hfz87_6, hfz87_7, hfz87_8, hfz87_9, hfz87_10, hfz87_11, hfz87_12, hfz87_13, hfz87_14, hfz87_15⟩ := bxc16 BK278.out
           obtain ⟨hcz88_0, hcz88_1, hcz88_2, hcz88_3, hcz88_4, hcz88_5, hcz88_6, hcz88_7, hcz88_8, hcz88_9, hcz88_10, hcz88_11, hcz88_12, hcz88_13, hcz88_14, hcz88_15, hfz88_0, hfz88_1, hfz88_2, hfz88_3, hfz88_4, hfz88_5, hfz88_6, hfz88_7, hfz88_8, hfz88_9, hfz88_10, hfz88_11, hfz88_12, hfz88_13, hfz88_14, hfz88_15⟩ := bxc16 BK279.out
           go_wp2
           go_ret
           exact ⟨by first | rfl | (simp [errW_none, errW_some] <;> rfl) | (simp [*, errW_none, errW_some] <;> rfl), by repeat (first | (with_reducible first | exact HB.out | apply kL | apply kM | apply kE | refine kS ?_ GE278.out | refine kS ?_ GE279.out) | exact HB.out)⟩
         ·rw [if_neg c77] at H
          have c77b0 : decide (1 ≤ a0_3) = false := decide_eq_false c77
          clear c77
          obtain rfl := Option.some.inj H
          have hnb89 := NB278_279.out
          have hnc89 := NB279_278.out
          obtain ⟨hcz90_0, hcz90_1, hcz90_2, hcz90_3, hcz90_4, hcz90_5, hcz90_6, hcz90_7, hcz90_8, hcz90_9, hcz90_10, hcz90_11, hcz90_12, hcz90_13, hcz90_14, hcz90_15, hfz90_0, hfz90_1, hfz90_2, hfz90_3, hfz90_4, hfz90_5, hfz90_6, hfz90_7, hfz90_8, hfz90_9, hfz90_10, hfz90_11, hfz90_12, hfz90_13, hfz90_14, hfz90_15⟩ := bxc16 BK278.out
          obtain ⟨hcz91_0, hcz91_1, hcz91_2, hcz91_3, hcz91_4, hcz91_5, hcz91_6, hcz91_7, hcz91_8, hcz91_9, hcz91_10, hcz91_11, hcz91_12, hcz91_13, hcz91_14, hcz91_15, hfz91_0, hfz91_1, hfz91_2, hfz91_3, hfz91_4, hfz91_5, hfz91_6, hfz91_7, hfz91_8, hfz91_9, hfz91_10, hfz91_11, hfz91_12, hfz91_13, hfz91_14, hfz91_15⟩ := bxc16 BK279.out
          go_wp2
          go_ret
          exact ⟨by first | rfl | (simp [errW_none, errW_some] <;> rfl) | (simp [*, errW_none, errW_some] <;> rfl), by repeat (first | (with_reducible first | exact HB.out | apply kL | apply kM | apply kE | refine kS ?_ GE278.out | refine kS ?_ GE279.out) | exact HB.out)⟩
        ·rw [if_neg c76] at H
         have c76b0 : (a0_0 == 9) = false := beq_eq_false_iff_ne.mpr c76
         have c76b1 : (a0_0 != 9) = true := bne_iff_ne.mpr c76
         by_cases c92 : a0_0 = 10
         ·rw [if_pos c92] at H
          have c92b0 : (a0_0 == 10) = true := beq_iff_eq.mpr c92
          have c92b1 : (a0_0 != 10) = false := bne_eq_false_iff_eq.mpr c92
          clear c92
          replace H := Option.bind_eq_some_iff.mp H
          obtain ⟨t281, A930, H⟩ := H
          replace H : (if t281 = true then (if a0_10 ≥ 1 then (if a0_10 ≤ 5 then (if a0_15 ≥ 1 then (if a0_15 ≤ 3 then (if (a0_0 == a0_0 && (a0_1 == 0 && (a0_2 == 0 && (a0_3 == 0 && ((a0_4 == 0 && (a0_5 == 0 && (a0_6 == 0 && (a0_7 == 0 && (a0_8 == false && (a0_9 == false))))))))))) = true then (some 0) else (some 1)) else (some 1)) else (some 1)) else (some 1)) else (some 1)) else (some 1)) = some r := H
          have A93 := Aside0.mk A930
          clear A930
          by_cases c94 : t281 = true
          ·subst c94
           have H1 : (if a0_10 ≥ 1 then (if a0_10 ≤ 5 then (if a0_15 ≥ 1 then (if a0_15 ≤ 3 then (if (a0_0 == a0_0 && (a0_1 == 0 && (a0_2 == 0 && (a0_3 == 0 && ((a0_4 == 0 && (a0_5 == 0 && (a0_6 == 0 && (a0_7 == 0 && (a0_8 == false && (a0_9 == false))))))))))) = true then (some 0) else (some 1)) else (some 1)) else (some 1)) else (some 1)) else (some 1)) = some r := by rw [if_pos rfl] at H; try exact H
           clear H
           have H := H1
           clear H1
           by_cases c95 : a0_10 ≥ 1
           ·rw [if_pos c95] at H
            have c95b0 : decide (1 ≤ a0_10) = true := decide_eq_true c95
            clear c95
            by_cases c96 : a0_10 ≤ 5
            ·rw [if_pos c96] at H
             have c96b0 : decide (a0_10 ≤ 5) = true := decide_eq_true c96
             clear c96
             by_cases c97 : a0_15 ≥ 1
             ·rw [if_pos c97] at H
              have c97b0 : decide (1 ≤ a0_15) = true := decide_eq_true c97
              clear c97
              by_cases c98 : a0_15 ≤ 3
              ·rw [if_pos c98] at H
               have c98b0 : decide (a0_15 ≤ 3) = true := decide_eq_true c98
               clear c98
               by_cases c99 : (a0_0 == a0_0 && (a0_1 == 0 && (a0_2 == 0 && (a0_3 == 0 && ((a0_4 == 0 && (a0_5 == 0 && (a0_6 == 0 && (a0_7 == 0 && (a0_8 == false && (a0_9 == false))))))))))) = true
               ·rw [if_pos c99] at H
                have c99b0 : (a0_0 == a0_0 && (a0_1 == 0 && (a0_2 == 0 && (a0_3 == 0 && ((a0_4 == 0 && (a0_5 == 0 && (a0_6 == 0 && (a0_7 == 0 && (a0_8 == false && (a0_9 == false))))))))))) = true := c99
                (try (have c99b1 : decide (a0_0 = a0_0 && (a0_1 == 0 && (a0_2 == 0 && (a0_3 == 0 && ((a0_4 == 0 && (a0_5 == 0 && (a0_6 == 0 && (a0_7 == 0 && (a0_8 == false && (a0_9 == false))))))))))) = true := by simpa using c99))
                (try (have c99b2 : (a0_0 == a0_0 && (a0_1 == 0 && (a0_2 == 0 && (a0_3 == 0 && ((a0_4 == 0 && (a0_5 == 0 && (a0_6 == 0 && (a0_7 == 0 && (a0_8 == false && (a0_9 == false))))))))))) = true := by simpa using c99))
                clear c99
                (try (have c99b0z_ := c99b0; simp only [beq_true, beq_false, true_beq, false_beq, Bool.not_eq_true', Bool.not_eq_false', Bool.not_true, Bool.not_false] at c99b0z_)); (try (have c99b0y_ := c99b0; simp only [beq_self_eq_true, Bool.true_and, beq_false, beq_true, Bool.eq_false_iff, ne_eq, Bool.and_eq_true] at c99b0y_))
                obtain rfl := Option.some.inj H
                have hnb100 := NB278_279.out
                have hnc100 := NB279_278.out
                obtain ⟨hcz101_0, hcz101_1, hcz101_2, hcz101_3, hcz101_4, hcz101_5, hcz101_6, hcz101_7, hcz101_8, hcz101_9, hcz101_10, hcz101_11, hcz101_12, hcz101_13, hcz101_14, hcz101_15, hfz101_0, hfz101_1, hfz101_2, hfz101_3, hfz101_4, hfz101_5, hfz101_6, hfz101_7, hfz101_8, hfz101_9, hfz101_10, hfz101_11, hfz101_12, hfz101_13, hfz101_14, hfz101_15⟩ := bxc16 BK278.out
                obtain ⟨hcz102_0, hcz102_1, hcz102_2, hcz102_3, hcz102_4, hcz102_5, hcz102_6, hcz102_7, hcz102_8, hcz102_9, hcz102_10, hcz102_11, hcz102_12, hcz102_13, hcz102_14, hcz102_15, hfz102_0, hfz102_1, hfz102_2, hfz102_3, hfz102_4, hfz102_5, hfz102_6, hfz102_7, hfz102_8, hfz102_9, hfz102_10, hfz102_11, hfz102_12, hfz102_13, hfz102_14, hfz102_15⟩ := bxc16 BK279.out
                go_wp2_with (first | ((with_reducible refine gate_callee (f := 14) rfl ?_); refine goesL_ (some 85) rfl rfl Try.func14 (by kernel_rfl) rfl #[.agg #[.int .u8 a0_10, .int .i64 a0_11, .int .i64 a0_12, .int .i64 a0_13, .int .i64 a0_14, .int .u8 a0_15]] rfl (by (try simp only [List.map_toArray, List.map_cons, List.map_nil]); first | done | rfl | (simp only [List.length_drop, List.length_take]; rfl)) ?_; (with_reducible refine (paybooklaw10_key.calls a0_10 a0_11 a0_12 a0_13 a0_14 a0_15 true _ A93.out).mono ?_); rintro e w103 ⟨rfl, hb⟩; refine ⟨_, rfl, ?_⟩; have n0_ := Aside0.mk (blk_below (g := gb278) (o := .cells #[.int .u8 a0_0, .int .i64 a0_1, .int .i64 a0_2, .int .i64 a0_3, .int .i64 a0_4, .int .u8 a0_5, .int .i64 a0_6, .int .i64 a0_7, .bool a0_8, .bool a0_9, .int .u8 a0_10, .int .i64 a0_11, .int .i64 a0_12, .int .i64 a0_13, .int .i64 a0_14, .int .u8 a0_15] 27 (0, 0)) (by (with_reducible repeat (first | refine kN ?_ _ | refine kD ?_ | refine kA ?_ _ | refine kR ?_ NB278_279.out _)); (with_reducible repeat (first | refine kN ?_ _ | refine kD ?_ | refine kA ?_ _)); exact BK278.out) hb); have n1_ := Aside0.mk (blk_below (g := gb279) (o := .cells #[.int .u8 a0_0, .int .i64 0, .int .i64 0, .int .i64 0, .int .i64 0, .int .u8 0, .int .i64 0, .int .i64 0, .bool false, .bool false, .int .u8 a0_10, .int .i64 a0_11, .int .i64 a0_12, .int .i64 a0_13, .int .i64 a0_14, .int .u8 a0_15] 27 (0, 0)) (by (with_reducible repeat (first | refine kN ?_ _ | refine kD ?_ | refine kA ?_ _)); refine bxp16_15 (o := .int .u8 0) ?_; (with_reducible repeat (first | refine kN ?_ _ | refine kD ?_ | refine kA ?_ _)); refine bxp16_14 (o := .int .i64 0) ?_; (with_reducible repeat (first | refine kN ?_ _ | refine kD ?_ | refine kA ?_ _)); refine bxp16_13 (o := .int .i64 0) ?_; (with_reducible repeat (first | refine kN ?_ _ | refine kD ?_ | refine kA ?_ _)); refine bxp16_12 (o := .int .i64 0) ?_; (with_reducible repeat (first | refine kN ?_ _ | refine kD ?_ | refine kA ?_ _)); refine bxp16_11 (o := .int .i64 0) ?_; (with_reducible repeat (first | refine kN ?_ _ | refine kD ?_ | refine kA ?_ _)); refine bxp16_10 (o := .int .u8 0) ?_; (with_reducible repeat (first | refine kN ?_ _ | refine kD ?_ | refine kA ?_ _)); exact BK279.out) hb); have n2_ := Aside0.mk (below_step (by repeat (first | (with_reducible first | exact HB.out | apply kL | apply kM | apply kE | refine kS ?_ GE278.out | refine kS ?_ GE279.out) | exact HB.out)) hb); clear BK278; clear BK279; clear HB; have BK278 := n0_; have BK279 := n1_; have HB := n2_; clear n0_ n1_ n2_; (try clear hb); (try clear hb2); (try clear hk); (try clear hi); obtain ⟨hcz104_0, hcz104_1, hcz104_2, hcz104_3, hcz104_4, hcz104_5, hcz104_6, hcz104_7, hcz104_8, hcz104_9, hcz104_10, hcz104_11, hcz104_12, hcz104_13, hcz104_14, hcz104_15, hfz104_0, hfz104_1, hfz104_2, hfz104_3, hfz104_4, hfz104_5, hfz104_6, hfz104_7, hfz104_8, hfz104_9, hfz104_10, hfz104_11, hfz104_12, hfz104_13, hfz104_14, hfz104_15⟩ := bxc16 BK278.out; obtain ⟨hcz105_0, hcz105_1, hcz105_2, hcz105_3, hcz105_4, hcz105_5, hcz105_6, hcz105_7, hcz105_8, hcz105_9, hcz105_10, hcz105_11, hcz105_12, hcz105_13, hcz105_14, hcz105_15, hfz105_0, hfz105_1, hfz105_2, hfz105_3, hfz105_4, hfz105_5, hfz105_6, hfz105_7, hfz105_8, hfz105_9, hfz105_10, hfz105_11, hfz105_12, hfz105_13, hfz105_14, hfz105_15⟩ := bxc16 BK279.out) | ((with_reducible refine gate_dst (N := 112) rfl ?_); (refine gate_guard (by rfl) ?_; dsimp only); refine wpList_load_row rfl 27 (.tmp 1) rfl gb278 rfl 27 #[.int .u8 a0_0, .int .i64 a0_1, .int .i64 a0_2, .int .i64 a0_3, .int .i64 a0_4, .int .u8 a0_5, .int .i64 a0_6, .int .i64 a0_7, .bool a0_8, .bool a0_9, .int .u8 a0_10, .int .i64 a0_11, .int .i64 a0_12, .int .i64 a0_13, .int .i64 a0_14, .int .u8 a0_15] (0, 0) _ (by (with_reducible repeat (first | refine kN ?_ _ | refine kD ?_ | refine kA ?_ _)); exact BK278.out) Try.underlying27 rfl (by kernel_rfl) ?_) | ((with_reducible refine gate_dst (N := 113) rfl ?_); (refine gate_guard (by rfl) ?_; dsimp only); refine wpList_load_row rfl 27 (.tmp 3) rfl gb279 rfl 27 #[.int .u8 a0_0, .int .i64 0, .int .i64 0, .int .i64 0, .int .i64 0, .int .u8 0, .int .i64 0, .int .i64 0, .bool false, .bool false, .int .u8 a0_10, .int .i64 a0_11, .int .i64 a0_12, .int .i64 a0_13, .int .i64 a0_14, .int .u8 a0_15] (0, 0) _ (by (with_reducible repeat (first | refine kN ?_ _ | refine kD ?_ | refine kA ?_ _)); exact BK279.out) Try.underlying27 rfl (by kernel_rfl) ?_))
                go_ret
                exact ⟨by first | rfl | (simp [errW_none, errW_some] <;> rfl) | (simp [*, errW_none, errW_some] <;> rfl), by repeat (first | (with_reducible first | exact HB.out | apply kL | apply kM | apply kE | refine kS ?_ GE278.out | refine kS ?_ GE279.out) | exact HB.out)⟩
               ·rw [if_neg c99] at H
                have c99b0 : (a0_0 == a0_0 && (a0_1 == 0 && (a0_2 == 0 && (a0_3 == 0 && ((a0_4 == 0 && (a0_5 == 0 && (a0_6 == 0 && (a0_7 == 0 && (a0_8 == false && (a0_9 == false))))))))))) = false := by simpa using c99
                (try (have c99b1 : decide (a0_0 = a0_0 && (a0_1 == 0 && (a0_2 == 0 && (a0_3 == 0 && ((a0_4 == 0 && (a0_5 == 0 && (a0_6 == 0 && (a0_7 == 0 && (a0_8 == false && (a0_9 == false))))))))))) = false := by simpa using c99))
                (try (have c99b2 : (a0_0 == a0_0 && (a0_1 == 0 && (a0_2 == 0 && (a0_3 == 0 && ((a0_4 == 0 && (a0_5 == 0 && (a0_6 == 0 && (a0_7 == 0 && (a0_8 == false && (a0_9 == false))))))))))) = false := by simpa using c99))
                (try (have c99b3 : ¬ (a0_0 = a0_0 && (a0_1 == 0 && (a0_2 == 0 && (a0_3 == 0 && ((a0_4 == 0 && (a0_5 == 0 && (a0_6 == 0 && (a0_7 == 0 && (a0_8 == false && (a0_9 == false))))))))))) := by simpa using c99))
                clear c99
                (try (have c99b0z_ := c99b0; simp only [beq_true, beq_false, true_beq, false_beq, Bool.not_eq_true', Bool.not_eq_false', Bool.not_true, Bool.not_false] at c99b0z_)); (try (have c99b0y_ := c99b0; simp only [beq_self_eq_true, Bool.true_and, beq_false, beq_true, Bool.eq_false_iff, ne_eq, Bool.and_eq_true] at c99b0y_))
                obtain rfl := Option.some.inj H
                have hnb106 := NB278_279.out
                have hnc106 := NB279_278.out
                obtain ⟨hcz107_0, hcz107_1, hcz107_2, hcz107_3, hcz107_4, hcz107_5, hcz107_6, hcz107_7, hcz107_8, hcz107_9, hcz107_10, hcz107_11, hcz107_12, hcz107_13, hcz107_14, hcz107_15, hfz107_0, hfz107_1, hfz107_2, hfz107_3, hfz107_4, hfz107_5, hfz107_6, hfz107_7, hfz107_8, hfz107_9, hfz107_10, hfz107_11, hfz107_12, hfz107_13, hfz107_14, hfz107_15⟩ := bxc16 BK278.out
                obtain ⟨hcz108_0, hcz108_1, hcz108_2, hcz108_3, hcz108_4, hcz108_5, hcz108_6, hcz108_7, hcz108_8, hcz108_9, hcz108_10, hcz108_11, hcz108_12, hcz108_13, hcz108_14, hcz108_15, hfz108_0, hfz108_1, hfz108_2, hfz108_3, hfz108_4, hfz108_5, hfz108_6, hfz108_7, hfz108_8, hfz108_9, hfz108_10, hfz108_11, hfz108_12, hfz108_13, hfz108_14, hfz108_15⟩ := bxc16 BK279.out
                go_wp2_with (first | ((with_reducible refine gate_callee (f := 14) rfl ?_); refine goesL_ (some 85) rfl rfl Try.func14 (by kernel_rfl) rfl #[.agg #[.int .u8 a0_10, .int .i64 a0_11, .int .i64 a0_12, .int .i64 a0_13, .int .i64 a0_14, .int .u8 a0_15]] rfl (by (try simp only [List.map_toArray, List.map_cons, List.map_nil]); first | done | rfl | (simp only [List.length_drop, List.length_take]; rfl)) ?_; (with_reducible refine (paybooklaw10_key.calls a0_10 a0_11 a0_12 a0_13 a0_14 a0_15 true _ A93.out).mono ?_); rintro e w109 ⟨rfl, hb⟩; refine ⟨_, rfl, ?_⟩; have n0_ := Aside0.mk (blk_below (g := gb278) (o := .cells #[.int .u8 a0_0, .int .i64 a0_1, .int .i64 a0_2, .int .i64 a0_3, .int .i64 a0_4, .int .u8 a0_5, .int .i64 a0_6, .int .i64 a0_7, .bool a0_8, .bool a0_9, .int .u8 a0_10, .int .i64 a0_11, .int .i64 a0_12, .int .i64 a0_13, .int .i64 a0_14, .int .u8 a0_15] 27 (0, 0)) (by (with_reducible repeat (first | refine kN ?_ _ | refine kD ?_ | refine kA ?_ _ | refine kR ?_ NB278_279.out _)); (with_reducible repeat (first | refine kN ?_ _ | refine kD ?_ | refine kA ?_ _)); exact BK278.out) hb); have n1_ := Aside0.mk (blk_below (g := gb279) (o := .cells #[.int .u8 a0_0, .int .i64 0, .int .i64 0, .int .i64 0, .int .i64 0, .int .u8 0, .int .i64 0, .int .i64 0, .bool false, .bool false, .int .u8 a0_10, .int .i64 a0_11, .int .i64 a0_12, .int .i64 a0_13, .int .i64 a0_14, .int .u8 a0_15] 27 (0, 0)) (by (with_reducible repeat (first | refine kN ?_ _ | refine kD ?_ | refine kA ?_ _)); refine bxp16_15 (o := .int .u8 0) ?_; (with_reducible repeat (first | refine kN ?_ _ | refine kD ?_ | refine kA ?_ _)); refine bxp16_14 (o := .int .i64 0) ?_; (with_reducible repeat (first | refine kN ?_ _ | refine kD ?_ | refine kA ?_ _)); refine bxp16_13 (o := .int .i64 0) ?_; (with_reducible repeat (first | refine kN ?_ _ | refine kD ?_ | refine kA ?_ _)); refine bxp16_12 (o := .int .i64 0) ?_; (with_reducible repeat (first | refine kN ?_ _ | refine kD ?_ | refine kA ?_ _)); refine bxp16_11 (o := .int .i64 0) ?_; (with_reducible repeat (first | refine kN ?_ _ | refine kD ?_ | refine kA ?_ _)); refine bxp16_10 (o := .int .u8 0) ?_; (with_reducible repeat (first | refine kN ?_ _ | refine kD ?_ | refine kA ?_ _)); exact BK279.out) hb); have n2_ := Aside0.mk (below_step (by repeat (first | (with_reducible first | exact HB.out | apply kL | apply kM | apply kE | refine kS ?_ GE278.out | refine kS ?_ GE279.out) | exact HB.out)) hb); clear BK278; clear BK279; clear HB; have BK278 := n0_; have BK279 := n1_; have HB := n2_; clear n0_ n1_ n2_; (try clear hb); (try clear hb2); (try clear hk); (try clear hi); obtain ⟨hcz110_0, hcz110_1, hcz110_2, hcz110_3, hcz110_4, hcz110_5, hcz110_6, hcz110_7, hcz110_8, hcz110_9, hcz110_10, hcz110_11, hcz110_12, hcz110_13, hcz110_14, hcz110_15, hfz110_0, hfz110_1, hfz110_2, hfz110_3, hfz110_4, hfz110_5, hfz110_6, hfz110_7, hfz110_8, hfz110_9, hfz110_10, hfz110_11, hfz110_12, hfz110_13, hfz110_14, hfz110_15⟩ := bxc16 BK278.out; obtain ⟨hcz111_0, hcz111_1, hcz111_2, hcz111_3, hcz111_4, hcz111_5, hcz111_6, hcz111_7, hcz111_8, hcz111_9, hcz111_10, hcz111_11, hcz111_12, hcz111_13, hcz111_14, hcz111_15, hfz111_0, hfz111_1, hfz111_2, hfz111_3, hfz111_4, hfz111_5, hfz111_6, hfz111_7, hfz111_8, hfz111_9, hfz111_10, hfz111_11, hfz111_12, hfz111_13, hfz111_14, hfz111_15⟩ := bxc16 BK279.out) | ((with_reducible refine gate_dst (N := 112) rfl ?_); (refine gate_guard (by rfl) ?_; dsimp only); refine wpList_load_row rfl 27 (.tmp 1) rfl gb278 rfl 27 #[.int .u8 a0_0, .int .i64 a0_1, .int .i64 a0_2, .int .i64 a0_3, .int .i64 a0_4, .int .u8 a0_5, .int .i64 a0_6, .int .i64 a0_7, .bool a0_8, .bool a0_9, .int .u8 a0_10, .int .i64 a0_11, .int .i64 a0_12, .int .i64 a0_13, .int .i64 a0_14, .int .u8 a0_15] (0, 0) _ (by (with_reducible repeat (first | refine kN ?_ _ | refine kD ?_ | refine kA ?_ _)); exact BK278.out) Try.underlying27 rfl (by kernel_rfl) ?_) | ((with_reducible refine gate_dst (N := 113) rfl ?_); (refine gate_guard (by rfl) ?_; dsimp only); refine wpList_load_row rfl 27 (.tmp 3) rfl gb279 rfl 27 #[.int .u8 a0_0, .int .i64 0, .int .i64 0, .int .i64 0, .int .i64 0, .int .u8 0, .int .i64 0, .int .i64 0, .bool false, .bool false, .int .u8 a0_10, .int .i64 a0_11, .int .i64 a0_12, .int .i64 a0_13, .int .i64 a0_14, .int .u8 a0_15] (0, 0) _ (by (with_reducible repeat (first | refine kN ?_ _ | refine kD ?_ | refine kA ?_ _)); exact BK279.out) Try.underlying27 rfl (by kernel_rfl) ?_))
                go_ret
                exact ⟨by first | rfl | (simp [errW_none, errW_some] <;> rfl) | (simp [*, errW_none, errW_some] <;> rfl), by repeat (first | (with_reducible first | exact HB.out | apply kL | apply kM | apply kE | refine kS ?_ GE278.out | refine kS ?_ GE279.out) | exact HB.out)⟩
              ·rw [if_neg c98] at H
               have c98b0 : decide (a0_15 ≤ 3) = false := decide_eq_false c98
               clear c98
               obtain rfl := Option.some.inj H
               have hnb112 := NB278_279.out
               have hnc112 := NB279_278.out
               obtain ⟨hcz113_0, hcz113_1, hcz113_2, hcz113_3, hcz113_4, hcz113_5, hcz113_6, hcz113_7, hcz113_8, hcz113_9, hcz113_10, hcz113_11, hcz113_12, hcz113_13, hcz113_14, hcz113_15, hfz113_0, hfz113_1, hfz113_2, hfz113_3, hfz113_4, hfz113_5, hfz113_6, hfz113_7, hfz113_8, hfz113_9, hfz113_10, hfz113_11, hfz113_12, hfz113_13, hfz113_14, hfz113_15⟩ := bxc16 BK278.out
               obtain ⟨hcz114_0, hcz114_1, hcz114_2, hcz114_3, hcz114_4, hcz114_5, hcz114_6, hcz114_7, hcz114_8, hcz114_9, hcz114_10, hcz114_11, hcz114_12, hcz114_13, hcz114_14, hcz114_15, hfz114_0, hfz114_1, hfz114_2, hfz114_3, hfz114_4, hfz114_5, hfz114_6, hfz114_7, hfz114_8, hfz114_9, hfz114_10, hfz114_11, hfz114_12, hfz114_13, hfz114_14, hfz114_15⟩ := bxc16 BK279.out
               go_wp2_with (((with_reducible refine gate_callee (f := 14) rfl ?_); refine goesL_ (some 85) rfl rfl Try.func14 (by kernel_rfl) rfl #[.agg #[.int .u8 a0_10, .int .i64 a0_11, .int .i64 a0_12, .int .i64 a0_13, .int .i64 a0_14, .int .u8 a0_15]] rfl (by (try simp only [List.map_toArray, List.map_cons, List.map_nil]); first | done | rfl | (simp only [List.length_drop, List.length_take]; rfl)) ?_; (with_reducible refine (paybooklaw10_key.calls a0_10 a0_11 a0_12 a0_13 a0_14 a0_15 true _ A93.out).mono ?_); rintro e w115 ⟨rfl, hb⟩; refine ⟨_, rfl, ?_⟩; have n0_ := Aside0.mk (blk_below (g := gb278) (o := .cells #[.int .u8 a0_0, .int .i64 a0_1, .int .i64 a0_2, .int .i64 a0_3, .int .i64 a0_4, .int .u8 a0_5, .int .i64 a0_6, .int .i64 a0_7, .bool a0_8, .bool a0_9, .int .u8 a0_10, .int .i64 a0_11, .int .i64 a0_12, .int .i64 a0_13, .int .i64 a0_14, .int .u8 a0_15] 27 (0, 0)) (by (with_reducible repeat (first | refine kN ?_ _ | refine kD ?_ | refine kA ?_ _ | refine kR ?_ NB278_279.out _)); (with_reducible repeat (first | refine kN ?_ _ | refine kD ?_ | refine kA ?_ _)); exact BK278.out) hb); have n1_ := Aside0.mk (blk_below (g := gb279) (o := .cells #[.int .u8 a0_0, .int .i64 0, .int .i64 0, .int .i64 0, .int .i64 0, .int .u8 0, .int .i64 0, .int .i64 0, .bool false, .bool false, .int .u8 a0_10, .int .i64 a0_11, .int .i64 a0_12, .int .i64 a0_13, .int .i64 a0_14, .int .u8 a0_15] 27 (0, 0)) (by (with_reducible repeat (first | refine kN ?_ _ | refine kD ?_ | refine kA ?_ _)); refine bxp16_15 (o := .int .u8 0) ?_; (with_reducible repeat (first | refine kN ?_ _ | refine kD ?_ | refine kA ?_ _)); refine bxp16_14 (o := .int .i64 0) ?_; (with_reducible repeat (first | refine kN ?_ _ | refine kD ?_ | refine kA ?_ _)); refine bxp16_13 (o := .int .i64 0) ?_; (with_reducible repeat (first | refine kN ?_ _ | refine kD ?_ | refine kA ?_ _)); refine bxp16_12 (o := .int .i64 0) ?_; (with_reducible repeat (first | refine kN ?_ _ | refine kD ?_ | refine kA ?_ _)); refine bxp16_11 (o := .int .i64 0) ?_; (with_reducible repeat (first | refine kN ?_ _ | refine kD ?_ | refine kA ?_ _)); refine bxp16_10 (o := .int .u8 0) ?_; (with_reducible repeat (first | refine kN ?_ _ | refine kD ?_ | refine kA ?_ _)); exact BK279.out) hb); have n2_ := Aside0.mk (below_step (by repeat (first | (with_reducible first | exact HB.out | apply kL | apply kM | apply kE | refine kS ?_ GE278.out | refine kS ?_ GE279.out) | exact HB.out)) hb); clear BK278; clear BK279; clear HB; have BK278 := n0_; have BK279 := n1_; have HB := n2_; clear n0_ n1_ n2_; (try clear hb); (try clear hb2); (try clear hk); (try clear hi); obtain ⟨hcz116_0, hcz116_1, hcz116_2, hcz116_3, hcz116_4, hcz116_5, hcz116_6, hcz116_7, hcz116_8, hcz116_9, hcz116_10, hcz116_11, hcz116_12, hcz116_13, hcz116_14, hcz116_15, hfz116_0, hfz116_1, hfz116_2, hfz116_3, hfz116_4, hfz116_5, hfz116_6, hfz116_7, hfz116_8, hfz116_9, hfz116_10, hfz116_11, hfz116_12, hfz116_13, hfz116_14, hfz116_15⟩ := bxc16 BK278.out))
               go_ret
               exact ⟨by first | rfl | (simp [errW_none, errW_some] <;> rfl) | (simp [*, errW_none, errW_some] <;> rfl), by repeat (first | (with_reducible first | exact HB.out | apply kL | apply kM | apply kE | refine kS ?_ GE278.out | refine kS ?_ GE279.out) | exact HB.out)⟩
             ·rw [if_neg c97] at H
              have c97b0 : decide (1 ≤ a0_15) = false := decide_eq_false c97
              clear c97
              obtain rfl := Option.some.inj H
              have hnb117 := NB278_279.out
              have hnc117 := NB279_278.out
              obtain ⟨hcz118_0, hcz118_1, hcz118_2, hcz118_3, hcz118_4, hcz118_5, hcz118_6, hcz118_7, hcz118_8, hcz118_9, hcz118_10, hcz118_11, hcz118_12, hcz118_13, hcz118_14, hcz118_15, hfz118_0, hfz118_1, hfz118_2, hfz118_3, hfz118_4, hfz118_5, hfz118_6, hfz118_7, hfz118_8, hfz118_9, hfz118_10, hfz118_11, hfz118_12, hfz118_13, hfz118_14, hfz118_15⟩ := bxc16 BK278.out
              obtain ⟨hcz119_0, hcz119_1, hcz119_2, hcz119_3, hcz119_4, hcz119_5, hcz119_6, hcz119_7, hcz119_8, hcz119_9, hcz119_10, hcz119_11, hcz119_12, hcz119_13, hcz119_14, hcz119_15, hfz119_0, hfz119_1, hfz119_2, hfz119_3, hfz119_4, hfz119_5, hfz119_6, hfz119_7, hfz119_8, hfz119_9, hfz119_10, hfz119_11, hfz119_12, hfz119_13, hfz119_14, hfz119_15⟩ := bxc16 BK279.out
              go_wp2_with (((with_reducible refine gate_callee (f := 14) rfl ?_); refine goesL_ (some 85) rfl rfl Try.func14 (by kernel_rfl) rfl #[.agg #[.int .u8 a0_10, .int .i64 a0_11, .int .i64 a0_12, .int .i64 a0_13, .int .i64 a0_14, .int .u8 a0_15]] rfl (by (try simp only [List.map_toArray, List.map_cons, List.map_nil]); first | done | rfl | (simp only [List.length_drop, List.length_take]; rfl)) ?_; (with_reducible refine (paybooklaw10_key.calls a0_10 a0_11 a0_12 a0_13 a0_14 a0_15 true _ A93.out).mono ?_); rintro e w120 ⟨rfl, hb⟩; refine ⟨_, rfl, ?_⟩; have n0_ := Aside0.mk (blk_below (g := gb278) (o := .cells #[.int .u8 a0_0, .int .i64 a0_1, .int .i64 a0_2, .int .i64 a0_3, .int .i64 a0_4, .int .u8 a0_5, .int .i64 a0_6, .int .i64 a0_7, .bool a0_8, .bool a0_9, .int .u8 a0_10, .int .i64 a0_11, .int .i64 a0_12, .int .i64 a0_13, .int .i64 a0_14, .int .u8 a0_15] 27 (0, 0)) (by (with_reducible repeat (first | refine kN ?_ _ | refine kD ?_ | refine kA ?_ _ | refine kR ?_ NB278_279.out _)); (with_reducible repeat (first | refine kN ?_ _ | refine kD ?_ | refine kA ?_ _)); exact BK278.out) hb); have n1_ := Aside0.mk (blk_below (g := gb279) (o := .cells #[.int .u8 a0_0, .int .i64 0, .int .i64 0, .int .i64 0, .int .i64 0, .int .u8 0, .int .i64 0, .int .i64 0, .bool false, .bool false, .int .u8 a0_10, .int .i64 a0_11, .int .i64 a0_12, .int .i64 a0_13, .int .i64 a0_14, .int .u8 a0_15] 27 (0, 0)) (by (with_reducible repeat (first | refine kN ?_ _ | refine kD ?_ | refine kA ?_ _)); refine bxp16_15 (o := .int .u8 0) ?_; (with_reducible repeat (first | refine kN ?_ _ | refine kD ?_ | refine kA ?_ _)); refine bxp16_14 (o := .int .i64 0) ?_; (with_reducible repeat (first | refine kN ?_ _ | refine kD ?_ | refine kA ?_ _)); refine bxp16_13 (o := .int .i64 0) ?_; (with_reducible repeat (first | refine kN ?_ _ | refine kD ?_ | refine kA ?_ _)); refine bxp16_12 (o := .int .i64 0) ?_; (with_reducible repeat (first | refine kN ?_ _ | refine kD ?_ | refine kA ?_ _)); refine bxp16_11 (o := .int .i64 0) ?_; (with_reducible repeat (first | refine kN ?_ _ | refine kD ?_ | refine kA ?_ _)); refine bxp16_10 (o := .int .u8 0) ?_; (with_reducible repeat (first | refine kN ?_ _ | refine kD ?_ | refine kA ?_ _)); exact BK279.out) hb); have n2_ := Aside0.mk (below_step (by repeat (first | (with_reducible first | exact HB.out | apply kL | apply kM | apply kE | refine kS ?_ GE278.out | refine kS ?_ GE279.out) | exact HB.out)) hb); clear BK278; clear BK279; clear HB; have BK278 := n0_; have BK279 := n1_; have HB := n2_; clear n0_ n1_ n2_; (try clear hb); (try clear hb2); (try clear hk); (try clear hi); obtain ⟨hcz121_0, hcz121_1, hcz121_2, hcz121_3, hcz121_4, hcz121_5, hcz121_6, hcz121_7, hcz121_8, hcz121_9, hcz121_10, hcz121_11, hcz121_12, hcz121_13, hcz121_14, hcz121_15, hfz121_0, hfz121_1, hfz121_2, hfz121_3, hfz121_4, hfz121_5, hfz121_6, hfz121_7, hfz121_8, hfz121_9, hfz121_10, hfz121_11, hfz121_12, hfz121_13, hfz121_14, hfz121_15⟩ := bxc16 BK278.out))
              go_ret
              exact ⟨by first | rfl | (simp [errW_none, errW_some] <;> rfl) | (simp [*, errW_none, errW_some] <;> rfl), by repeat (first | (with_reducible first | exact HB.out | apply kL | apply kM | apply kE | refine kS ?_ GE278.out | refine kS ?_ GE279.out) | exact HB.out)⟩
            ·rw [if_neg c96] at H
             have c96b0 : decide (a0_10 ≤ 5) = false := decide_eq_false c96
             clear c96
             obtain rfl := Option.some.inj H
             have hnb122 := NB278_279.out
             have hnc122 := NB279_278.out
             obtain ⟨hcz123_0, hcz123_1, hcz123_2, hcz123_3, hcz123_4, hcz123_5, hcz123_6, hcz123_7, hcz123_8, hcz123_9, hcz123_10, hcz123_11, hcz123_12, hcz123_13, hcz123_14, hcz123_15, hfz123_0, hfz123_1, hfz123_2, hfz123_3, hfz123_4, hfz123_5, hfz123_6, hfz123_7, hfz123_8, hfz123_9, hfz123_10, hfz123_11, hfz123_12, hfz123_13, hfz123_14, hfz123_15⟩ := bxc16 BK278.out
             obtain ⟨hcz124_0, hcz124_1, hcz124_2, hcz124_3, hcz124_4, hcz124_5, hcz124_6, hcz124_7, hcz124_8, hcz124_9, hcz124_10, hcz124_11, hcz124_12, hcz124_13, hcz124_14, hcz124_15, hfz124_0, hfz124_1, hfz124_2, hfz124_3, hfz124_4, hfz124_5, hfz124_6, hfz124_7, hfz124_8, hfz124_9, hfz124_10, hfz124_11, hfz124_12, hfz124_13, hfz124_14, hfz124_15⟩ := bxc16 BK279.out
             go_wp2_with (((with_reducible refine gate_callee (f := 14) rfl ?_); refine goesL_ (some 85) rfl rfl Try.func14 (by kernel_rfl) rfl #[.agg #[.int .u8 a0_10, .int .i64 a0_11, .int .i64 a0_12, .int .i64 a0_13, .int .i64 a0_14, .int .u8 a0_15]] rfl (by (try simp only [List.map_toArray, List.map_cons, List.map_nil]); first | done | rfl | (simp only [List.length_drop, List.length_take]; rfl)) ?_; (with_reducible refine (paybooklaw10_key.calls a0_10 a0_11 a0_12 a0_13 a0_14 a0_15 true _ A93.out).mono ?_); rintro e w125 ⟨rfl, hb⟩; refine ⟨_, rfl, ?_⟩; have n0_ := Aside0.mk (blk_below (g := gb278) (o := .cells #[.int .u8 a0_0, .int .i64 a0_1, .int .i64 a0_2, .int .i64 a0_3, .int .i64 a0_4, .int .u8 a0_5, .int .i64 a0_6, .int .i64 a0_7, .bool a0_8, .bool a0_9, .int .u8 a0_10, .int .i64 a0_11, .int .i64 a0_12, .int .i64 a0_13, .int .i64 a0_14, .int .u8 a0_15] 27 (0, 0)) (by (with_reducible repeat (first | refine kN ?_ _ | refine kD ?_ | refine kA ?_ _ | refine kR ?_ NB278_279.out _)); (with_reducible repeat (first | refine kN ?_ _ | refine kD ?_ | refine kA ?_ _)); exact BK278.out) hb); have n1_ := Aside0.mk (blk_below (g := gb279) (o := .cells #[.int .u8 a0_0, .int .i64 0, .int .i64 0, .int .i64 0, .int .i64 0, .int .u8 0, .int .i64 0, .int .i64 0, .bool false, .bool false, .int .u8 a0_10, .int .i64 a0_11, .int .i64 a0_12, .int .i64 a0_13, .int .i64 a0_14, .int .u8 a0_15] 27 (0, 0)) (by (with_reducible repeat (first | refine kN ?_ _ | refine kD ?_ | refine kA ?_ _)); refine bxp16_15 (o := .int .u8 0) ?_; (with_reducible repeat (first | refine kN ?_ _ | refine kD ?_ | refine kA ?_ _)); refine bxp16_14 (o := .int .i64 0) ?_; (with_reducible repeat (first | refine kN ?_ _ | refine kD ?_ | refine kA ?_ _)); refine bxp16_13 (o := .int .i64 0) ?_; (with_reducible repeat (first | refine kN ?_ _ | refine kD ?_ | refine kA ?_ _)); refine bxp16_12 (o := .int .i64 0) ?_; (with_reducible repeat (first | refine kN ?_ _ | refine kD ?_ | refine kA ?_ _)); refine bxp16_11 (o := .int .i64 0) ?_; (with_reducible repeat (first | refine kN ?_ _ | refine kD ?_ | refine kA ?_ _)); refine bxp16_10 (o := .int .u8 0) ?_; (with_reducible repeat (first | refine kN ?_ _ | refine kD ?_ | refine kA ?_ _)); exact BK279.out) hb); have n2_ := Aside0.mk (below_step (by repeat (first | (with_reducible first | exact HB.out | apply kL | apply kM | apply kE | refine kS ?_ GE278.out | refine kS ?_ GE279.out) | exact HB.out)) hb); clear BK278; clear BK279; clear HB; have BK278 := n0_; have BK279 := n1_; have HB := n2_; clear n0_ n1_ n2_; (try clear hb); (try clear hb2); (try clear hk); (try clear hi); obtain ⟨hcz126_0, hcz126_1, hcz126_2, hcz126_3, hcz126_4, hcz126_5, hcz126_6, hcz126_7, hcz126_8, hcz126_9, hcz126_10, hcz126_11, hcz126_12, hcz126_13, hcz126_14, hcz126_15, hfz126_0, hfz126_1, hfz126_2, hfz126_3, hfz126_4, hfz126_5, hfz126_6, hfz126_7, hfz126_8, hfz126_9, hfz126_10, hfz126_11, hfz126_12, hfz126_13, hfz126_14, hfz126_15⟩ := bxc16 BK278.out))
             go_ret
             exact ⟨by first | rfl | (simp [errW_none, errW_some] <;> rfl) | (simp [*, errW_none, errW_some] <;> rfl), by repeat (first | (with_reducible first | exact HB.out | apply kL | apply kM | apply kE | refine kS ?_ GE278.out | refine kS ?_ GE279.out) | exact HB.out)⟩
           ·rw [if_neg c95] at H
            have c95b0 : decide (1 ≤ a0_10) = false := decide_eq_false c95
            clear c95
            obtain rfl := Option.some.inj H
            have hnb127 := NB278_279.out
            have hnc127 := NB279_278.out
            obtain ⟨hcz128_0, hcz128_1, hcz128_2, hcz128_3, hcz128_4, hcz128_5, hcz128_6, hcz128_7, hcz128_8, hcz128_9, hcz128_10, hcz128_11, hcz128_12, hcz128_13, hcz128_14, hcz128_15, hfz128_0, hfz128_1, hfz128_2, hfz128_3, hfz128_4, hfz128_5, hfz128_6, hfz128_7, hfz128_8, hfz128_9, hfz128_10, hfz128_11, hfz128_12, hfz128_13, hfz128_14, hfz128_15⟩ := bxc16 BK278.out
            obtain ⟨hcz129_0, hcz129_1, hcz129_2, hcz129_3, hcz129_4, hcz129_5, hcz129_6, hcz129_7, hcz129_8, hcz129_9, hcz129_10, hcz129_11, hcz129_12, hcz129_13, hcz129_14, hcz129_15, hfz129_0, hfz129_1, hfz129_2, hfz129_3, hfz129_4, hfz129_5, hfz129_6, hfz129_7, hfz129_8, hfz129_9, hfz129_10, hfz129_11, hfz129_12, hfz129_13, hfz129_14, hfz129_15⟩ := bxc16 BK279.out
            go_wp2_with (((with_reducible refine gate_callee (f := 14) rfl ?_); refine goesL_ (some 85) rfl rfl Try.func14 (by kernel_rfl) rfl #[.agg #[.int .u8 a0_10, .int .i64 a0_11, .int .i64 a0_12, .int .i64 a0_13, .int .i64 a0_14, .int .u8 a0_15]] rfl (by (try simp only [List.map_toArray, List.map_cons, List.map_nil]); first | done | rfl | (simp only [List.length_drop, List.length_take]; rfl)) ?_; (with_reducible refine (paybooklaw10_key.calls a0_10 a0_11 a0_12 a0_13 a0_14 a0_15 true _ A93.out).mono ?_); rintro e w130 ⟨rfl, hb⟩; refine ⟨_, rfl, ?_⟩; have n0_ := Aside0.mk (blk_below (g := gb278) (o := .cells #[.int .u8 a0_0, .int .i64 a0_1, .int .i64 a0_2, .int .i64 a0_3, .int .i64 a0_4, .int .u8 a0_5, .int .i64 a0_6, .int .i64 a0_7, .bool a0_8, .bool a0_9, .int .u8 a0_10, .int .i64 a0_11, .int .i64 a0_12, .int .i64 a0_13, .int .i64 a0_14, .int .u8 a0_15] 27 (0, 0)) (by (with_reducible repeat (first | refine kN ?_ _ | refine kD ?_ | refine kA ?_ _ | refine kR ?_ NB278_279.out _)); (with_reducible repeat (first | refine kN ?_ _ | refine kD ?_ | refine kA ?_ _)); exact BK278.out) hb); have n1_ := Aside0.mk (blk_below (g := gb279) (o := .cells #[.int .u8 a0_0, .int .i64 0, .int .i64 0, .int .i64 0, .int .i64 0, .int .u8 0, .int .i64 0, .int .i64 0, .bool false, .bool false, .int .u8 a0_10, .int .i64 a0_11, .int .i64 a0_12, .int .i64 a0_13, .int .i64 a0_14, .int .u8 a0_15] 27 (0, 0)) (by (with_reducible repeat (first | refine kN ?_ _ | refine kD ?_ | refine kA ?_ _)); refine bxp16_15 (o := .int .u8 0) ?_; (with_reducible repeat (first | refine kN ?_ _ | refine kD ?_ | refine kA ?_ _)); refine bxp16_14 (o := .int .i64 0) ?_; (with_reducible repeat (first | refine kN ?_ _ | refine kD ?_ | refine kA ?_ _)); refine bxp16_13 (o := .int .i64 0) ?_; (with_reducible repeat (first | refine kN ?_ _ | refine kD ?_ | refine kA ?_ _)); refine bxp16_12 (o := .int .i64 0) ?_; (with_reducible repeat (first | refine kN ?_ _ | refine kD ?_ | refine kA ?_ _)); refine bxp16_11 (o := .int .i64 0) ?_; (with_reducible repeat (first | refine kN ?_ _ | refine kD ?_ | refine kA ?_ _)); refine bxp16_10 (o := .int .u8 0) ?_; (with_reducible repeat (first | refine kN ?_ _ | refine kD ?_ | refine kA ?_ _)); exact BK279.out) hb); have n2_ := Aside0.mk (below_step (by repeat (first | (with_reducible first | exact HB.out | apply kL | apply kM | apply kE | refine kS ?_ GE278.out | refine kS ?_ GE279.out) | exact HB.out)) hb); clear BK278; clear BK279; clear HB; have BK278 := n0_; have BK279 := n1_; have HB := n2_; clear n0_ n1_ n2_; (try clear hb); (try clear hb2); (try clear hk); (try clear hi); obtain ⟨hcz131_0, hcz131_1, hcz131_2, hcz131_3, hcz131_4, hcz131_5, hcz131_6, hcz131_7, hcz131_8, hcz131_9, hcz131_10, hcz131_11, hcz131_12, hcz131_13, hcz131_14, hcz131_15, hfz131_0, hfz131_1, hfz131_2, hfz131_3, hfz131_4, hfz131_5, hfz131_6, hfz131_7, hfz131_8, hfz131_9, hfz131_10, hfz131_11, hfz131_12, hfz131_13, hfz131_14, hfz131_15⟩ := bxc16 BK278.out))
            go_ret
            exact ⟨by first | rfl | (simp [errW_none, errW_some] <;> rfl) | (simp [*, errW_none, errW_some] <;> rfl), by repeat (first | (with_reducible first | exact HB.out | apply kL | apply kM | apply kE | refine kS ?_ GE278.out | refine kS ?_ GE279.out) | exact HB.out)⟩
          ·replace c94 := Bool.eq_false_iff.mpr c94
           subst c94
           have H1 : (some 1) = some r := by rw [if_neg (show ¬ (false = true) by decide)] at H; try exact H
           clear H
           have H := H1
           clear H1
           obtain rfl := Option.some.inj H
           have hnb132 := NB278_279.out
           have hnc132 := NB279_278.out
           obtain ⟨hcz133_0, hcz133_1, hcz133_2, hcz133_3, hcz133_4, hcz133_5, hcz133_6, hcz133_7, hcz133_8, hcz133_9, hcz133_10, hcz133_11, hcz133_12, hcz133_13, hcz133_14, hcz133_15, hfz133_0, hfz133_1, hfz133_2, hfz133_3, hfz133_4, hfz133_5, hfz133_6, hfz133_7, hfz133_8, hfz133_9, hfz133_10, hfz133_11, hfz133_12, hfz133_13, hfz133_14, hfz133_15⟩ := bxc16 BK278.out
           obtain ⟨hcz134_0, hcz134_1, hcz134_2, hcz134_3, hcz134_4, hcz134_5, hcz134_6, hcz134_7, hcz134_8, hcz134_9, hcz134_10, hcz134_11, hcz134_12, hcz134_13, hcz134_14, hcz134_15, hfz134_0, hfz134_1, hfz134_2, hfz134_3, hfz134_4, hfz134_5, hfz134_6, hfz134_7, hfz134_8, hfz134_9, hfz134_10, hfz134_11, hfz134_12, hfz134_13, hfz134_14, hfz134_15⟩ := bxc16 BK279.out
           go_wp2_with (((with_reducible refine gate_callee (f := 14) rfl ?_); refine goesL_ (some 85) rfl rfl Try.func14 (by kernel_rfl) rfl #[.agg #[.int .u8 a0_10, .int .i64 a0_11, .int .i64 a0_12, .int .i64 a0_13, .int .i64 a0_14, .int .u8 a0_15]] rfl (by (try simp only [List.map_toArray, List.map_cons, List.map_nil]); first | done | rfl | (simp only [List.length_drop, List.length_take]; rfl)) ?_; (with_reducible refine (paybooklaw10_key.calls a0_10 a0_11 a0_12 a0_13 a0_14 a0_15 false _ A93.out).mono ?_); rintro e w135 ⟨rfl, hb⟩; refine ⟨_, rfl, ?_⟩; have n0_ := Aside0.mk (blk_below (g := gb278) (o := .cells #[.int .u8 a0_0, .int .i64 a0_1, .int .i64 a0_2, .int .i64 a0_3, .int .i64 a0_4, .int .u8 a0_5, .int .i64 a0_6, .int .i64 a0_7, .bool a0_8, .bool a0_9, .int .u8 a0_10, .int .i64 a0_11, .int .i64 a0_12, .int .i64 a0_13, .int .i64 a0_14, .int .u8 a0_15] 27 (0, 0)) (by (with_reducible repeat (first | refine kN ?_ _ | refine kD ?_ | refine kA ?_ _ | refine kR ?_ NB278_279.out _)); (with_reducible repeat (first | refine kN ?_ _ | refine kD ?_ | refine kA ?_ _)); exact BK278.out) hb); have n1_ := Aside0.mk (blk_below (g := gb279) (o := .cells #[.int .u8 a0_0, .int .i64 0, .int .i64 0, .int .i64 0, .int .i64 0, .int .u8 0, .int .i64 0, .int .i64 0, .bool false, .bool false, .int .u8 a0_10, .int .i64 a0_11, .int .i64 a0_12, .int .i64 a0_13, .int .i64 a0_14, .int .u8 a0_15] 27 (0, 0)) (by (with_reducible repeat (first | refine kN ?_ _ | refine kD ?_ | refine kA ?_ _)); refine bxp16_15 (o := .int .u8 0) ?_; (with_reducible repeat (first | refine kN ?_ _ | refine kD ?_ | refine kA ?_ _)); refine bxp16_14 (o := .int .i64 0) ?_; (with_reducible repeat (first | refine kN ?_ _ | refine kD ?_ | refine kA ?_ _)); refine bxp16_13 (o := .int .i64 0) ?_; (with_reducible repeat (first | refine kN ?_ _ | refine kD ?_ | refine kA ?_ _)); refine bxp16_12 (o := .int .i64 0) ?_; (with_reducible repeat (first | refine kN ?_ _ | refine kD ?_ | refine kA ?_ _)); refine bxp16_11 (o := .int .i64 0) ?_; (with_reducible repeat (first | refine kN ?_ _ | refine kD ?_ | refine kA ?_ _)); refine bxp16_10 (o := .int .u8 0) ?_; (with_reducible repeat (first | refine kN ?_ _ | refine kD ?_ | refine kA ?_ _)); exact BK279.out) hb); have n2_ := Aside0.mk (below_step (by repeat (first | (with_reducible first | exact HB.out | apply kL | apply kM | apply kE | refine kS ?_ GE278.out | refine kS ?_ GE279.out) | exact HB.out)) hb); clear BK278; clear BK279; clear HB; have BK278 := n0_; have BK279 := n1_; have HB := n2_; clear n0_ n1_ n2_; (try clear hb); (try clear hb2); (try clear hk); (try clear hi)))
           go_ret
           exact ⟨by first | rfl | (simp [errW_none, errW_some] <;> rfl) | (simp [*, errW_none, errW_some] <;> rfl), by repeat (first | (with_reducible first | exact HB.out | apply kL | apply kM | apply kE | refine kS ?_ GE278.out | refine kS ?_ GE279.out) | exact HB.out)⟩
         ·rw [if_neg c92] at H
          have c92b0 : (a0_0 == 10) = false := beq_eq_false_iff_ne.mpr c92
          have c92b1 : (a0_0 != 10) = true := bne_iff_ne.mpr c92
          by_cases c136 : false = true
          ·exact absurd c136 (by decide)
          ·clear c136
           have H1 : (some 1) = some r := by rw [if_neg (show ¬ (false = true) by decide)] at H; try exact H
           clear H
           have H := H1
           clear H1
           (try (have c2b0z_ := c2b0; simp only [beq_true, beq_false, true_beq, false_beq, Bool.not_eq_true', Bool.not_eq_false', Bool.not_true, Bool.not_false] at c2b0z_)); (try (have c2b0y_ := c2b0; simp only [beq_self_eq_true, Bool.true_and, beq_false, beq_true, Bool.eq_false_iff, ne_eq, Bool.and_eq_true] at c2b0y_))
           (try (have c76b0z_ := c76b0; simp only [beq_true, beq_false, true_beq, false_beq, Bool.not_eq_true', Bool.not_eq_false', Bool.not_true, Bool.not_false] at c76b0z_)); (try (have c76b0y_ := c76b0; simp only [beq_self_eq_true, Bool.true_and, beq_false, beq_true, Bool.eq_false_iff, ne_eq, Bool.and_eq_true] at c76b0y_))
           (try (have c92b0z_ := c92b0; simp only [beq_true, beq_false, true_beq, false_beq, Bool.not_eq_true', Bool.not_eq_false', Bool.not_true, Bool.not_false] at c92b0z_)); (try (have c92b0y_ := c92b0; simp only [beq_self_eq_true, Bool.true_and, beq_false, beq_true, Bool.eq_false_iff, ne_eq, Bool.and_eq_true] at c92b0y_))
           obtain rfl := Option.some.inj H
           go_wp2
           go_ret
           exact ⟨by first | rfl | (simp [errW_none, errW_some] <;> rfl) | (simp [*, errW_none, errW_some] <;> rfl), by repeat (first | (with_reducible first | exact HB.out | apply kL | apply kM | apply kE | refine kS ?_ GE278.out | refine kS ?_ GE279.out) | exact HB.out)⟩

end Go.Proofs.Ytlihgjonmliodaa.PA
