-- printed by this workplace: wip/patchprint.py over the kit's print
import Derived.Test.YtlihgjonmliodaaPAx0
import Derived.Test.YtlihgjonmliodaaPAx4
import Derived.Test.YtlihgjonmliodaaPAx7
import Derived.Test.YtlihgjonmliodaaPAx9
import Derived.Test.YtlihgjonmliodaaPAx16
import Derived.Test.YtlihgjonmliodaaPAx17
namespace Go.Proofs.Ytlihgjonmliodaa.PA
open Go.RowKit Go.Proofs.YtlihgjonmliodaaW.PrintWords Go.Proofs.YtlihgjonmliodaaW.PrintLast Go.Proofs.YtlihgjonmliodaaW.PrintMore
attribute [local go_sem] max2_int min2_int max_two min_two max_three min_three max_four min_four   -- for this text's walks alone
set_option linter.unusedVariables false
set_option linter.unusedSimpArgs false

/-! ### paybooklaw10_OrderRights: function 3 -/
def paybooklaw10_OrderRights.j0 : Nat → Int → Int → Int → Int → Int → Int → Int → Int → Bool → Bool → Int → Int → Int → Int → Int → Int → Option (Bool)
 | 0, _, _, _, _, _, _, _, _, _, _, _, _, _, _, _, _ => none
 | k + 1, x261000, x261001, x261002, x261003, x261004, x261005, x261006, x261007, x261008, x261009, x261010, x261011, x261012, x261013, x261014, x261015 => (paybooklaw10_awake.f k).bind fun t278 => (if t278 = true then ((order_Right.f k x261000 x261001 x261002 x261003 x261004 x261005 x261006 x261007 x261008 x261009 x261010 x261011 x261012 x261013 x261014 x261015).bind fun t279 => ((paybooklaw10_right.f k x261000 x261001 x261002 x261003 x261004 x261005 x261006 x261007 x261008 x261009 x261010 x261011 x261012 x261013 x261014 x261015).bind fun t280 => (if t279 = t280 then ((order_Key.f x261010 x261011 x261012 x261013 x261014 x261015).bind fun t281 => ((paybooklaw10_key.f x261010 x261011 x261012 x261013 x261014 x261015).bind fun t282 => (some (t281 == t282)))) else (some false)))) else (some false))
def paybooklaw10_OrderRights.f (k : Nat) (a0_0 : Int) (a0_1 : Int) (a0_2 : Int) (a0_3 : Int) (a0_4 : Int) (a0_5 : Int) (a0_6 : Int) (a0_7 : Int) (a0_8 : Bool) (a0_9 : Bool) (a0_10 : Int) (a0_11 : Int) (a0_12 : Int) (a0_13 : Int) (a0_14 : Int) (a0_15 : Int) (a1 : Int) : Option (Bool) := if a1 ≥ 64 then ((paybooklaw10_near.f k a0_0 a0_1 a0_2 a0_3 a0_4 a0_5 a0_6 a0_7 a0_8 a0_9 a0_10 a0_11 a0_12 a0_13 a0_14 a0_15).bind fun bt261 => (if a1 ≥ 192 then (paybooklaw10_OrderRights.j0 k bt261.1 bt261.2.1 bt261.2.2.1 (wrap64 (bt261.2.2.2.1 + (Int.tmod a0_3 2))) bt261.2.2.2.2.1 bt261.2.2.2.2.2.1 bt261.2.2.2.2.2.2.1 bt261.2.2.2.2.2.2.2.1 bt261.2.2.2.2.2.2.2.2.1 bt261.2.2.2.2.2.2.2.2.2.1 bt261.2.2.2.2.2.2.2.2.2.2.1 bt261.2.2.2.2.2.2.2.2.2.2.2.1 bt261.2.2.2.2.2.2.2.2.2.2.2.2.1 bt261.2.2.2.2.2.2.2.2.2.2.2.2.2.1 bt261.2.2.2.2.2.2.2.2.2.2.2.2.2.2.1 bt261.2.2.2.2.2.2.2.2.2.2.2.2.2.2.2) else (paybooklaw10_OrderRights.j0 k bt261.1 bt261.2.1 bt261.2.2.1 bt261.2.2.2.1 bt261.2.2.2.2.1 bt261.2.2.2.2.2.1 bt261.2.2.2.2.2.2.1 bt261.2.2.2.2.2.2.2.1 bt261.2.2.2.2.2.2.2.2.1 bt261.2.2.2.2.2.2.2.2.2.1 bt261.2.2.2.2.2.2.2.2.2.2.1 bt261.2.2.2.2.2.2.2.2.2.2.2.1 bt261.2.2.2.2.2.2.2.2.2.2.2.2.1 bt261.2.2.2.2.2.2.2.2.2.2.2.2.2.1 bt261.2.2.2.2.2.2.2.2.2.2.2.2.2.2.1 bt261.2.2.2.2.2.2.2.2.2.2.2.2.2.2.2))) else (paybooklaw10_OrderRights.j0 k a0_0 a0_1 a0_2 a0_3 a0_4 a0_5 a0_6 a0_7 a0_8 a0_9 a0_10 a0_11 a0_12 a0_13 a0_14 a0_15)
theorem paybooklaw10_OrderRights.mono_l : ∀ k, (∀ y0 y1 y2 y3 y4 y5 y6 y7 y8 y9 y10 y11 y12 y13 y14 y15, LeO (paybooklaw10_OrderRights.j0 k y0 y1 y2 y3 y4 y5 y6 y7 y8 y9 y10 y11 y12 y13 y14 y15) (paybooklaw10_OrderRights.j0 (k + 1) y0 y1 y2 y3 y4 y5 y6 y7 y8 y9 y10 y11 y12 y13 y14 y15))
 | 0 => fun _ _ _ _ _ _ _ _ _ _ _ _ _ _ _ _ r h => by simp [paybooklaw10_OrderRights.j0] at h
 | k + 1 => by
  have ih0 := paybooklaw10_OrderRights.mono_l k
  ·intro y0 y1 y2 y3 y4 y5 y6 y7 y8 y9 y10 y11 y12 y13 y14 y15
   unfold paybooklaw10_OrderRights.j0
   repeat' first
   | (with_reducible exact ih0 _ _ _ _ _ _ _ _ _ _ _ _ _ _ _ _)
   | (with_reducible exact order_Right.mono _ _ _ _ _ _ _ _ _ _ _ _ _ _ _ _ _)
   | (with_reducible exact paybooklaw10_awake.mono _)
   | (with_reducible exact paybooklaw10_near.mono _ _ _ _ _ _ _ _ _ _ _ _ _ _ _ _ _)
   | (with_reducible exact paybooklaw10_right.mono _ _ _ _ _ _ _ _ _ _ _ _ _ _ _ _ _)
   | (with_reducible exact LeO.refl _)
   | (with_reducible exact LeO.none _)
   | (with_reducible refine LeO.ite ?_ ?_)
   | (with_reducible refine LeO.bind ?_ (fun _ => ?_))
   | exact ih0 _ _ _ _ _ _ _ _ _ _ _ _ _ _ _ _
   | exact order_Right.mono _ _ _ _ _ _ _ _ _ _ _ _ _ _ _ _ _
   | exact paybooklaw10_awake.mono _
   | exact paybooklaw10_near.mono _ _ _ _ _ _ _ _ _ _ _ _ _ _ _ _ _
   | exact paybooklaw10_right.mono _ _ _ _ _ _ _ _ _ _ _ _ _ _ _ _ _
   | exact LeO.none _
   | refine LeO.ite ?_ ?_
   | refine LeO.bind ?_ (fun _ => ?_)
theorem paybooklaw10_OrderRights.mono : ∀ a0 a1 a2 a3 a4 a5 a6 a7 a8 a9 a10 a11 a12 a13 a14 a15 a16 k, LeO (paybooklaw10_OrderRights.f k a0 a1 a2 a3 a4 a5 a6 a7 a8 a9 a10 a11 a12 a13 a14 a15 a16) (paybooklaw10_OrderRights.f (k + 1) a0 a1 a2 a3 a4 a5 a6 a7 a8 a9 a10 a11 a12 a13 a14 a15 a16) := by
 intro a0 a1 a2 a3 a4 a5 a6 a7 a8 a9 a10 a11 a12 a13 a14 a15 a16 k
 have ih0 := paybooklaw10_OrderRights.mono_l k
 unfold paybooklaw10_OrderRights.f
 repeat' first
   | (with_reducible exact ih0 _ _ _ _ _ _ _ _ _ _ _ _ _ _ _ _)
   | (with_reducible exact order_Right.mono _ _ _ _ _ _ _ _ _ _ _ _ _ _ _ _ _)
   | (with_reducible exact paybooklaw10_awake.mono _)
   | (with_reducible exact paybooklaw10_near.mono _ _ _ _ _ _ _ _ _ _ _ _ _ _ _ _ _)
   | (with_reducible exact paybooklaw10_right.mono _ _ _ _ _ _ _ _ _ _ _ _ _ _ _ _ _)
   | (with_reducible exact LeO.refl _)
   | (with_reducible exact LeO.none _)
   | (with_reducible refine LeO.ite ?_ ?_)
   | (with_reducible refine LeO.bind ?_ (fun _ => ?_))
   | exact ih0 _ _ _ _ _ _ _ _ _ _ _ _ _ _ _ _
   | exact order_Right.mono _ _ _ _ _ _ _ _ _ _ _ _ _ _ _ _ _
   | exact paybooklaw10_awake.mono _
   | exact paybooklaw10_near.mono _ _ _ _ _ _ _ _ _ _ _ _ _ _ _ _ _
   | exact paybooklaw10_right.mono _ _ _ _ _ _ _ _ _ _ _ _ _ _ _ _ _
   | exact LeO.none _
   | refine LeO.ite ?_ ?_
   | refine LeO.bind ?_ (fun _ => ?_)
def paybooklaw10_OrderRights.T6 : Bool × List (List Nat × List Nat) := (true, [([], []), ([0, 0], [0]), ([1], [1]), ([2, 1, 1], [1, 2]), ([1], [1]), ([4, 3, 1], [1, 4]), ([3, 5, 1], [1, 3, 5]), ([1, 6], [1, 6]), ([7, 5], [7]), ([8], [8]), ([9, 8], [8, 9]), ([10, 8, 8], [8, 10]), ([8], [8]), ([12, 8], [8, 12]), ([13, 11, 8], [8, 13]), ([11, 14, 8], [8, 11, 14]), ([8, 15], [8, 15]), ([16, 14, 0, 1, 2, 3, 4, 5, 6, 7, 8, 9, 10, 11, 12, 13, 14, 15, 16], [16])])
def paybooklaw10_OrderRights.B6 : List Nat := [0, 1, 3, 7, 3, 31, 63, 127, 255, 511, 1023, 2047, 511, 4607, 16383, 32767, 65535, 131071]
theorem paybooklaw10_OrderRights.tab6 : rtab .any (opsOf Try.f3 6) = paybooklaw10_OrderRights.T6 := by kernel_rfl
theorem paybooklaw10_OrderRights.bits6 : waitsOk paybooklaw10_OrderRights.T6.2 paybooklaw10_OrderRights.B6 = true := by kernel_rfl
set_option maxHeartbeats 40000000 in
set_option maxRecDepth 100000 in
theorem paybooklaw10_OrderRights.calls (k : Nat) (a0_0 : Int) (a0_1 : Int) (a0_2 : Int) (a0_3 : Int) (a0_4 : Int) (a0_5 : Int) (a0_6 : Int) (a0_7 : Int) (a0_8 : Bool) (a0_9 : Bool) (a0_10 : Int) (a0_11 : Int) (a0_12 : Int) (a0_13 : Int) (a0_14 : Int) (a0_15 : Int) (a1 : Int) (w : World) (h : paybooklaw10_OrderRights.f k a0_0 a0_1 a0_2 a0_3 a0_4 a0_5 a0_6 a0_7 a0_8 a0_9 a0_10 a0_11 a0_12 a0_13 a0_14 a0_15 a1 = some true) :
  Calls Try.prog 3 #[.agg #[.int .u8 a0_0, .int .i64 a0_1, .int .i64 a0_2, .int .i64 a0_3, .int .i64 a0_4, .int .u8 a0_5, .int .i64 a0_6, .int .i64 a0_7, .bool a0_8, .bool a0_9, .int .u8 a0_10, .int .i64 a0_11, .int .i64 a0_12, .int .i64 a0_13, .int .i64 a0_14, .int .u8 a0_15], .int .u8 a1] w fun e w' => e = .returned (.bool true) ∧ Below w.heap.size w w' := by
 have hu27 := Try.underlying27
 have hu25 := Try.underlying25
 have HB := Aside0.mk (Below.refl w.heap.size w)
 have H : (if a1 ≥ 64 then ((paybooklaw10_near.f k a0_0 a0_1 a0_2 a0_3 a0_4 a0_5 a0_6 a0_7 a0_8 a0_9 a0_10 a0_11 a0_12 a0_13 a0_14 a0_15).bind fun bt261 => (if a1 ≥ 192 then (paybooklaw10_OrderRights.j0 k bt261.1 bt261.2.1 bt261.2.2.1 (wrap64 (bt261.2.2.2.1 + (Int.tmod a0_3 2))) bt261.2.2.2.2.1 bt261.2.2.2.2.2.1 bt261.2.2.2.2.2.2.1 bt261.2.2.2.2.2.2.2.1 bt261.2.2.2.2.2.2.2.2.1 bt261.2.2.2.2.2.2.2.2.2.1 bt261.2.2.2.2.2.2.2.2.2.2.1 bt261.2.2.2.2.2.2.2.2.2.2.2.1 bt261.2.2.2.2.2.2.2.2.2.2.2.2.1 bt261.2.2.2.2.2.2.2.2.2.2.2.2.2.1 bt261.2.2.2.2.2.2.2.2.2.2.2.2.2.2.1 bt261.2.2.2.2.2.2.2.2.2.2.2.2.2.2.2) else (paybooklaw10_OrderRights.j0 k bt261.1 bt261.2.1 bt261.2.2.1 bt261.2.2.2.1 bt261.2.2.2.2.1 bt261.2.2.2.2.2.1 bt261.2.2.2.2.2.2.1 bt261.2.2.2.2.2.2.2.1 bt261.2.2.2.2.2.2.2.2.1 bt261.2.2.2.2.2.2.2.2.2.1 bt261.2.2.2.2.2.2.2.2.2.2.1 bt261.2.2.2.2.2.2.2.2.2.2.2.1 bt261.2.2.2.2.2.2.2.2.2.2.2.2.1 bt261.2.2.2.2.2.2.2.2.2.2.2.2.2.1 bt261.2.2.2.2.2.2.2.2.2.2.2.2.2.2.1 bt261.2.2.2.2.2.2.2.2.2.2.2.2.2.2.2))) else (paybooklaw10_OrderRights.j0 k a0_0 a0_1 a0_2 a0_3 a0_4 a0_5 a0_6 a0_7 a0_8 a0_9 a0_10 a0_11 a0_12 a0_13 a0_14 a0_15)) = some true := h
 clear h
 have HC3 := Aside0.mk H
 clear H
 go_enter Try.func3, Try.ntmps3
 go_upto_if 7 with (first | ((with_reducible refine gate_dst (N := 2) rfl ?_); refine box_event ?hg (N := 2) ?hd (cs := #[.int .u8 a0_0, .int .i64 a0_1, .int .i64 a0_2, .int .i64 a0_3, .int .i64 a0_4, .int .u8 a0_5, .int .i64 a0_6, .int .i64 a0_7, .bool a0_8, .bool a0_9, .int .u8 a0_10, .int .i64 a0_11, .int .i64 a0_12, .int .i64 a0_13, .int .i64 a0_14, .int .u8 a0_15]) (t := 27) ?hr ?_; (case hd => rfl); (case hg => rfl); (case hr => first | (go_simp; done) | (go_simp; rfl)); intro gb260 hg w4 hbox hb; have n0_ := Aside0.mk (below_step (by repeat (first | (with_reducible first | exact HB.out | apply kL | apply kM | apply kE) | exact HB.out)) hb); have n1_ := Aside0.mk (hbox); have n2_ := Aside0.mk ((by rw [hg]; exact (below_size (by repeat (first | (with_reducible first | exact HB.out | apply kL | apply kM | apply kE) | exact HB.out))) : w.heap.size ≤ gb260)); have n3_ := Aside0.mk ((by rw [hg]; exact (below_size (by repeat (first | (with_reducible first | exact HB.out | apply kL | apply kM | apply kE) | exact HB.out))) : w.heap.size ≤ gb260)); clear HB; have HB := n0_; have BK260 := n1_; have GW260 := n2_; have GE260 := n3_; clear n0_ n1_ n2_ n3_; clear hb hbox hg))
 (try simp only [Act.put, List.setIfInBounds_toArray, List.set_cons_zero, List.set_cons_succ])
 go_cut [] (fun wc => ∃ (kq : Nat) (x261000_2 : Int) (x261001_2 : Int) (x261002_2 : Int) (x261003_2 : Int) (x261004_2 : Int) (x261005_2 : Int) (x261006_2 : Int) (x261007_2 : Int) (x261008_2 : Bool) (x261009_2 : Bool) (x261010_2 : Int) (x261011_2 : Int) (x261012_2 : Int) (x261013_2 : Int) (x261014_2 : Int) (x261015_2 : Int), Aside0 (paybooklaw10_OrderRights.j0 kq x261000_2 x261001_2 x261002_2 x261003_2 x261004_2 x261005_2 x261006_2 x261007_2 x261008_2 x261009_2 x261010_2 x261011_2 x261012_2 x261013_2 x261014_2 x261015_2 = some true) ∧ Aside0 (kq ≤ k) ∧ Aside0 (wc.heap[gb260]? = some (.cells #[.int .u8 x261000_2, .int .i64 x261001_2, .int .i64 x261002_2, .int .i64 x261003_2, .int .i64 x261004_2, .int .u8 x261005_2, .int .i64 x261006_2, .int .i64 x261007_2, .bool x261008_2, .bool x261009_2, .int .u8 x261010_2, .int .i64 x261011_2, .int .i64 x261012_2, .int .i64 x261013_2, .int .i64 x261014_2, .int .u8 x261015_2] 27 (0, 0))) ∧ Aside0 (Below w.heap.size w wc))
 case first =>
  have H := HC3.out
  clear HC3
  by_cases c5 : a1 ≥ 64
  ·rw [if_pos c5] at H
   have c5b0 : decide (64 ≤ a1) = true := decide_eq_true c5
   clear c5
   (first | (generalize hg_ : decide (64 ≤ a1) = bg_ at *; subst c5b0; have c5b0 := hg_; clear hg_) | rw [c5b0] | (simp only [i64_w, i32_w]; rw [c5b0]) | skip)
   replace H := Option.bind_eq_some_iff.mp H
   obtain ⟨⟨t261, t262, t263, t264, t265, t266, t267, t268, t269, t270, t271, t272, t273, t274, t275, t276⟩, A60, H⟩ := H
   replace H : (if a1 ≥ 192 then (paybooklaw10_OrderRights.j0 k t261 t262 t263 (wrap64 (t264 + (Int.tmod a0_3 2))) t265 t266 t267 t268 t269 t270 t271 t272 t273 t274 t275 t276) else (paybooklaw10_OrderRights.j0 k t261 t262 t263 t264 t265 t266 t267 t268 t269 t270 t271 t272 t273 t274 t275 t276)) = some true := H
   have A6 := Aside0.mk A60
   clear A60
   by_cases c7 : a1 ≥ 192
   ·rw [if_pos c7] at H
    have c7b0 : decide (192 ≤ a1) = true := decide_eq_true c7
    clear c7
    have H' := Aside0.mk H
    clear H
    obtain ⟨hcz8_0, hcz8_1, hcz8_2, hcz8_3, hcz8_4, hcz8_5, hcz8_6, hcz8_7, hcz8_8, hcz8_9, hcz8_10, hcz8_11, hcz8_12, hcz8_13, hcz8_14, hcz8_15, hfz8_0, hfz8_1, hfz8_2, hfz8_3, hfz8_4, hfz8_5, hfz8_6, hfz8_7, hfz8_8, hfz8_9, hfz8_10, hfz8_11, hfz8_12, hfz8_13, hfz8_14, hfz8_15⟩ := bxc16 BK260.out
    go_wp2_with (first | ((with_reducible refine gate_dst (N := 8) rfl ?_); refine wpList_load_row rfl 27 (.tmp 2) rfl gb260 rfl 27 #[.int .u8 a0_0, .int .i64 a0_1, .int .i64 a0_2, .int .i64 a0_3, .int .i64 a0_4, .int .u8 a0_5, .int .i64 a0_6, .int .i64 a0_7, .bool a0_8, .bool a0_9, .int .u8 a0_10, .int .i64 a0_11, .int .i64 a0_12, .int .i64 a0_13, .int .i64 a0_14, .int .u8 a0_15] (0, 0) _ (by (with_reducible repeat (first | refine kN ?_ _ | refine kD ?_ | refine kA ?_ _)); exact BK260.out) Try.underlying27 rfl (by kernel_rfl) ?_) | ((with_reducible refine gate_callee (f := 9) rfl ?_); refine goesL_ (some 9) rfl rfl Try.func9 (by kernel_rfl) rfl #[.agg #[.int .u8 a0_0, .int .i64 a0_1, .int .i64 a0_2, .int .i64 a0_3, .int .i64 a0_4, .int .u8 a0_5, .int .i64 a0_6, .int .i64 a0_7, .bool a0_8, .bool a0_9, .int .u8 a0_10, .int .i64 a0_11, .int .i64 a0_12, .int .i64 a0_13, .int .i64 a0_14, .int .u8 a0_15]] rfl (by (try simp only [List.map_toArray, List.map_cons, List.map_nil]); first | done | rfl | (simp only [List.length_drop, List.length_take]; rfl)) ?_; (with_reducible refine (paybooklaw10_near.calls k a0_0 a0_1 a0_2 a0_3 a0_4 a0_5 a0_6 a0_7 a0_8 a0_9 a0_10 a0_11 a0_12 a0_13 a0_14 a0_15 t261 t262 t263 t264 t265 t266 t267 t268 t269 t270 t271 t272 t273 t274 t275 t276 _ A6.out).mono ?_); rintro e w9 ⟨rfl, hb⟩; refine ⟨_, rfl, ?_⟩; have n0_ := Aside0.mk (blk_below (g := gb260) (o := .cells #[.int .u8 a0_0, .int .i64 a0_1, .int .i64 a0_2, .int .i64 a0_3, .int .i64 a0_4, .int .u8 a0_5, .int .i64 a0_6, .int .i64 a0_7, .bool a0_8, .bool a0_9, .int .u8 a0_10, .int .i64 a0_11, .int .i64 a0_12, .int .i64 a0_13, .int .i64 a0_14, .int .u8 a0_15] 27 (0, 0)) (by (with_reducible repeat (first | refine kN ?_ _ | refine kD ?_ | refine kA ?_ _)); exact BK260.out) hb); have n1_ := Aside0.mk (below_step (by repeat (first | (with_reducible first | exact HB.out | apply kL | apply kM | apply kE | refine kS ?_ GE260.out) | exact HB.out)) hb); clear BK260; clear HB; have BK260 := n0_; have HB := n1_; clear n0_ n1_; (try clear hb); (try clear hb2); (try clear hk); (try clear hi)) | ((with_reducible refine gate_dst (N := 5) rfl ?_); refine box_event ?hg (N := 5) ?hd (cs := #[.int .u8 0, .int .i64 0, .int .i64 0, .int .i64 0, .int .i64 0, .int .u8 0, .int .i64 0, .int .i64 0, .bool false, .bool false, .int .u8 0, .int .i64 0, .int .i64 0, .int .i64 0, .int .i64 0, .int .u8 0]) (t := 27) ?hr ?_; (case hd => rfl); (case hg => rfl); (case hr => first | (go_simp; done) | (go_simp; rfl)); intro gb277 hg w10 hbox hb; have n0_ := Aside0.mk (blk_below (g := gb260) (o := .cells #[.int .u8 a0_0, .int .i64 a0_1, .int .i64 a0_2, .int .i64 a0_3, .int .i64 a0_4, .int .u8 a0_5, .int .i64 a0_6, .int .i64 a0_7, .bool a0_8, .bool a0_9, .int .u8 a0_10, .int .i64 a0_11, .int .i64 a0_12, .int .i64 a0_13, .int .i64 a0_14, .int .u8 a0_15] 27 (0, 0)) (by (with_reducible repeat (first | refine kN ?_ _ | refine kD ?_ | refine kA ?_ _)); exact BK260.out) hb); have n1_ := Aside0.mk (below_step (by repeat (first | (with_reducible first | exact HB.out | apply kL | apply kM | apply kE | refine kS ?_ GE260.out) | exact HB.out)) hb); have n2_ := Aside0.mk (hbox); have n3_ := Aside0.mk ((by rw [hg]; exact (below_size (by repeat (first | (with_reducible first | exact HB.out | apply kL | apply kM | apply kE | refine kS ?_ GE260.out) | exact HB.out))) : w.heap.size ≤ gb277)); have n4_ := Aside0.mk ((by rw [hg]; exact (below_size (by repeat (first | (with_reducible first | exact HB.out | apply kL | apply kM | apply kE | refine kS ?_ GE260.out) | exact HB.out))) : w.heap.size ≤ gb277)); have n5_ := Aside0.mk ((by rw [hg]; exact Nat.ne_of_lt (blk_lt (g := gb260) (o := .cells #[.int .u8 a0_0, .int .i64 a0_1, .int .i64 a0_2, .int .i64 a0_3, .int .i64 a0_4, .int .u8 a0_5, .int .i64 a0_6, .int .i64 a0_7, .bool a0_8, .bool a0_9, .int .u8 a0_10, .int .i64 a0_11, .int .i64 a0_12, .int .i64 a0_13, .int .i64 a0_14, .int .u8 a0_15] 27 (0, 0)) (by (with_reducible repeat (first | refine kN ?_ _ | refine kD ?_ | refine kA ?_ _)); exact BK260.out)) : gb260 ≠ gb277)); have n6_ := Aside0.mk ((by rw [hg]; exact Nat.ne_of_gt (blk_lt (g := gb260) (o := .cells #[.int .u8 a0_0, .int .i64 a0_1, .int .i64 a0_2, .int .i64 a0_3, .int .i64 a0_4, .int .u8 a0_5, .int .i64 a0_6, .int .i64 a0_7, .bool a0_8, .bool a0_9, .int .u8 a0_10, .int .i64 a0_11, .int .i64 a0_12, .int .i64 a0_13, .int .i64 a0_14, .int .u8 a0_15] 27 (0, 0)) (by (with_reducible repeat (first | refine kN ?_ _ | refine kD ?_ | refine kA ?_ _)); exact BK260.out)) : gb277 ≠ gb260)); clear BK260; clear HB; have BK260 := n0_; have HB := n1_; have BK277 := n2_; have GW277 := n3_; have GE277 := n4_; have NB260_277 := n5_; have NB277_260 := n6_; clear n0_ n1_ n2_ n3_ n4_ n5_ n6_; clear hb hbox hg; have hnb11 := NB277_260.out; have hnc11 := NB260_277.out; obtain ⟨hcz12_0, hcz12_1, hcz12_2, hcz12_3, hcz12_4, hcz12_5, hcz12_6, hcz12_7, hcz12_8, hcz12_9, hcz12_10, hcz12_11, hcz12_12, hcz12_13, hcz12_14, hcz12_15, hfz12_0, hfz12_1, hfz12_2, hfz12_3, hfz12_4, hfz12_5, hfz12_6, hfz12_7, hfz12_8, hfz12_9, hfz12_10, hfz12_11, hfz12_12, hfz12_13, hfz12_14, hfz12_15⟩ := bxc16 BK277.out) | ((with_reducible refine gate_store (t := 27) (p := 5) rfl ?_); refine rec_event (t := 27) (p := 5) (v := ?vo_w13) (g := gb277) (t' := 27) #[.int .u8 0, .int .i64 0, .int .i64 0, .int .i64 0, .int .i64 0, .int .u8 0, .int .i64 0, .int .i64 0, .bool false, .bool false, .int .u8 0, .int .i64 0, .int .i64 0, .int .i64 0, .int .i64 0, .int .u8 0] #[.int .u8 t261, .int .i64 t262, .int .i64 t263, .int .i64 t264, .int .i64 t265, .int .u8 t266, .int .i64 t267, .int .i64 t268, .bool t269, .bool t270, .int .u8 t271, .int .i64 t272, .int .i64 t273, .int .i64 t274, .int .i64 t275, .int .u8 t276] ?hg ?ho ?hn ?hx ?hy ?hb (by rfl) (by kernel_rfl) (by kernel_rfl) ?_; (case ho => rfl); (case hg => rfl); (case hn => rfl); (case hx => rfl); (case hy => rfl); (case hb => exact BK277.out); intro w13 hblk hoth hbel; have n0_ : Aside0 (w13.heap[gb260]? = some (.cells #[.int .u8 a0_0, .int .i64 a0_1, .int .i64 a0_2, .int .i64 a0_3, .int .i64 a0_4, .int .u8 a0_5, .int .i64 a0_6, .int .i64 a0_7, .bool a0_8, .bool a0_9, .int .u8 a0_10, .int .i64 a0_11, .int .i64 a0_12, .int .i64 a0_13, .int .i64 a0_14, .int .u8 a0_15] 27 (0, 0))) := ⟨(hoth gb260 NB260_277.out).trans (by (with_reducible repeat (first | refine kN ?_ _ | refine kD ?_ | refine kA ?_ _)); exact BK260.out)⟩; have n1_ : Aside0 (w13.heap[gb277]? = some (.cells #[.int .u8 t261, .int .i64 t262, .int .i64 t263, .int .i64 t264, .int .i64 t265, .int .u8 t266, .int .i64 t267, .int .i64 t268, .bool t269, .bool t270, .int .u8 t271, .int .i64 t272, .int .i64 t273, .int .i64 t274, .int .i64 t275, .int .u8 t276] 27 (0, 0))) := ⟨hblk⟩; have n2_ : Aside0 (Below w.heap.size w w13) := ⟨Below.trans (by repeat (first | (with_reducible first | exact HB.out | apply kL | apply kM | apply kE | refine kS ?_ GE260.out | refine kS ?_ GE277.out) | exact HB.out)) (hbel _ GE277.out)⟩; clear hblk hoth hbel; clear BK260; clear BK277; clear HB; have BK260 := n0_; have BK277 := n1_; have HB := n2_; clear n0_ n1_ n2_; obtain ⟨hcz14_0, hcz14_1, hcz14_2, hcz14_3, hcz14_4, hcz14_5, hcz14_6, hcz14_7, hcz14_8, hcz14_9, hcz14_10, hcz14_11, hcz14_12, hcz14_13, hcz14_14, hcz14_15, hfz14_0, hfz14_1, hfz14_2, hfz14_3, hfz14_4, hfz14_5, hfz14_6, hfz14_7, hfz14_8, hfz14_9, hfz14_10, hfz14_11, hfz14_12, hfz14_13, hfz14_14, hfz14_15⟩ := bxc16 BK277.out; obtain ⟨hcz15_0, hcz15_1, hcz15_2, hcz15_3, hcz15_4, hcz15_5, hcz15_6, hcz15_7, hcz15_8, hcz15_9, hcz15_10, hcz15_11, hcz15_12, hcz15_13, hcz15_14, hcz15_15, hfz15_0, hfz15_1, hfz15_2, hfz15_3, hfz15_4, hfz15_5, hfz15_6, hfz15_7, hfz15_8, hfz15_9, hfz15_10, hfz15_11, hfz15_12, hfz15_13, hfz15_14, hfz15_15⟩ := bxc16 BK260.out) | ((with_reducible refine gate_dst (N := 19) rfl ?_); refine wpList_load_row rfl 27 (.tmp 5) rfl gb277 rfl 27 #[.int .u8 t261, .int .i64 t262, .int .i64 t263, .int .i64 (wrap64 (t264 + (Int.tmod a0_3 2))), .int .i64 t265, .int .u8 t266, .int .i64 t267, .int .i64 t268, .bool t269, .bool t270, .int .u8 t271, .int .i64 t272, .int .i64 t273, .int .i64 t274, .int .i64 t275, .int .u8 t276] (0, 0) _ (by (with_reducible repeat (first | refine kN ?_ _ | refine kD ?_ | refine kA ?_ _)); refine bxp16_3 (o := .int .i64 t264) ?_; (with_reducible repeat (first | refine kN ?_ _ | refine kD ?_ | refine kA ?_ _)); exact BK277.out) Try.underlying27 rfl (by kernel_rfl) ?_) | ((with_reducible refine gate_store (t := 27) (p := 2) rfl ?_); refine rec_event (t := 27) (p := 2) (v := ?vo_w16) (g := gb260) (t' := 27) #[.int .u8 a0_0, .int .i64 a0_1, .int .i64 a0_2, .int .i64 a0_3, .int .i64 a0_4, .int .u8 a0_5, .int .i64 a0_6, .int .i64 a0_7, .bool a0_8, .bool a0_9, .int .u8 a0_10, .int .i64 a0_11, .int .i64 a0_12, .int .i64 a0_13, .int .i64 a0_14, .int .u8 a0_15] #[.int .u8 t261, .int .i64 t262, .int .i64 t263, .int .i64 (wrap64 (t264 + (Int.tmod a0_3 2))), .int .i64 t265, .int .u8 t266, .int .i64 t267, .int .i64 t268, .bool t269, .bool t270, .int .u8 t271, .int .i64 t272, .int .i64 t273, .int .i64 t274, .int .i64 t275, .int .u8 t276] ?hg ?ho ?hn ?hx ?hy ?hb (by rfl) (by kernel_rfl) (by kernel_rfl) ?_; (case ho => rfl); (case hg => rfl); (case hn => rfl); (case hx => rfl); (case hy => rfl); (case hb => exact by (with_reducible repeat (first | refine kN ?_ _ | refine kD ?_ | refine kA ?_ _ | refine kR ?_ NB260_277.out _)); (with_reducible repeat (first | refine kN ?_ _ | refine kD ?_ | refine kA ?_ _)); exact BK260.out); intro w16 hblk hoth hbel; have n0_ : Aside0 (w16.heap[gb260]? = some (.cells #[.int .u8 t261, .int .i64 t262, .int .i64 t263, .int .i64 (wrap64 (t264 + (Int.tmod a0_3 2))), .int .i64 t265, .int .u8 t266, .int .i64 t267, .int .i64 t268, .bool t269, .bool t270, .int .u8 t271, .int .i64 t272, .int .i64 t273, .int .i64 t274, .int .i64 t275, .int .u8 t276] 27 (0, 0))) := ⟨hblk⟩; have n1_ : Aside0 (w16.heap[gb277]? = some (.cells #[.int .u8 t261, .int .i64 t262, .int .i64 t263, .int .i64 (wrap64 (t264 + (Int.tmod a0_3 2))), .int .i64 t265, .int .u8 t266, .int .i64 t267, .int .i64 t268, .bool t269, .bool t270, .int .u8 t271, .int .i64 t272, .int .i64 t273, .int .i64 t274, .int .i64 t275, .int .u8 t276] 27 (0, 0))) := ⟨(hoth gb277 NB277_260.out).trans (by (with_reducible repeat (first | refine kN ?_ _ | refine kD ?_ | refine kA ?_ _)); refine bxp16_3 (o := .int .i64 t264) ?_; (with_reducible repeat (first | refine kN ?_ _ | refine kD ?_ | refine kA ?_ _)); exact BK277.out)⟩; have n2_ : Aside0 (Below w.heap.size w w16) := ⟨Below.trans (by repeat (first | (with_reducible first | exact HB.out | apply kL | apply kM | apply kE | refine kS ?_ GE260.out | refine kS ?_ GE277.out) | exact HB.out)) (hbel _ GE260.out)⟩; clear hblk hoth hbel; clear BK260; clear BK277; clear HB; have BK260 := n0_; have BK277 := n1_; have HB := n2_; clear n0_ n1_ n2_))
    go_meet
    case rel => exact ⟨_, (t261), (t262), (t263), (wrap64 (t264 + (Int.tmod a0_3 2))), (t265), (t266), (t267), (t268), (t269), (t270), (t271), (t272), (t273), (t274), (t275), (t276), (by first | (with_reducible exact H') | (simp only [*]; with_reducible exact H') | exact H'), ⟨by first | omega | exact Nat.le_refl _⟩, ⟨by (with_reducible repeat (first | refine kN ?_ _ | refine kD ?_ | refine kA ?_ _)); exact BK260.out⟩, ⟨by repeat (first | (with_reducible first | exact HB.out | apply kL | apply kM | apply kE | refine kS ?_ GE260.out | refine kS ?_ GE277.out) | exact HB.out)⟩⟩
   ·rw [if_neg c7] at H
    have c7b0 : decide (192 ≤ a1) = false := decide_eq_false c7
    clear c7
    have H' := Aside0.mk H
    clear H
    obtain ⟨hcz17_0, hcz17_1, hcz17_2, hcz17_3, hcz17_4, hcz17_5, hcz17_6, hcz17_7, hcz17_8, hcz17_9, hcz17_10, hcz17_11, hcz17_12, hcz17_13, hcz17_14, hcz17_15, hfz17_0, hfz17_1, hfz17_2, hfz17_3, hfz17_4, hfz17_5, hfz17_6, hfz17_7, hfz17_8, hfz17_9, hfz17_10, hfz17_11, hfz17_12, hfz17_13, hfz17_14, hfz17_15⟩ := bxc16 BK260.out
    go_wp2_with (first | ((with_reducible refine gate_dst (N := 8) rfl ?_); refine wpList_load_row rfl 27 (.tmp 2) rfl gb260 rfl 27 #[.int .u8 a0_0, .int .i64 a0_1, .int .i64 a0_2, .int .i64 a0_3, .int .i64 a0_4, .int .u8 a0_5, .int .i64 a0_6, .int .i64 a0_7, .bool a0_8, .bool a0_9, .int .u8 a0_10, .int .i64 a0_11, .int .i64 a0_12, .int .i64 a0_13, .int .i64 a0_14, .int .u8 a0_15] (0, 0) _ (by (with_reducible repeat (first | refine kN ?_ _ | refine kD ?_ | refine kA ?_ _)); exact BK260.out) Try.underlying27 rfl (by kernel_rfl) ?_) | ((with_reducible refine gate_callee (f := 9) rfl ?_); refine goesL_ (some 9) rfl rfl Try.func9 (by kernel_rfl) rfl #[.agg #[.int .u8 a0_0, .int .i64 a0_1, .int .i64 a0_2, .int .i64 a0_3, .int .i64 a0_4, .int .u8 a0_5, .int .i64 a0_6, .int .i64 a0_7, .bool a0_8, .bool a0_9, .int .u8 a0_10, .int .i64 a0_11, .int .i64 a0_12, .int .i64 a0_13, .int .i64 a0_14, .int .u8 a0_15]] rfl (by (try simp only [List.map_toArray, List.map_cons, List.map_nil]); first | done | rfl | (simp only [List.length_drop, List.length_take]; rfl)) ?_; (with_reducible refine (paybooklaw10_near.calls k a0_0 a0_1 a0_2 a0_3 a0_4 a0_5 a0_6 a0_7 a0_8 a0_9 a0_10 a0_11 a0_12 a0_13 a0_14 a0_15 t261 t262 t263 t264 t265 t266 t267 t268 t269 t270 t271 t272 t273 t274 t275 t276 _ A6.out).mono ?_); rintro e w18 ⟨rfl, hb⟩; refine ⟨_, rfl, ?_⟩; have n0_ := Aside0.mk (blk_below (g := gb260) (o := .cells #[.int .u8 a0_0, .int .i64 a0_1, .int .i64 a0_2, .int .i64 a0_3, .int .i64 a0_4, .int .u8 a0_5, .int .i64 a0_6, .int .i64 a0_7, .bool a0_8, .bool a0_9, .int .u8 a0_10, .int .i64 a0_11, .int .i64 a0_12, .int .i64 a0_13, .int .i64 a0_14, .int .u8 a0_15] 27 (0, 0)) (by (with_reducible repeat (first | refine kN ?_ _ | refine kD ?_ | refine kA ?_ _)); exact BK260.out) hb); have n1_ := Aside0.mk (below_step (by repeat (first | (with_reducible first | exact HB.out | apply kL | apply kM | apply kE | refine kS ?_ GE260.out) | exact HB.out)) hb); clear BK260; clear HB; have BK260 := n0_; have HB := n1_; clear n0_ n1_; (try clear hb); (try clear hb2); (try clear hk); (try clear hi)) | ((with_reducible refine gate_dst (N := 5) rfl ?_); refine box_event ?hg (N := 5) ?hd (cs := #[.int .u8 0, .int .i64 0, .int .i64 0, .int .i64 0, .int .i64 0, .int .u8 0, .int .i64 0, .int .i64 0, .bool false, .bool false, .int .u8 0, .int .i64 0, .int .i64 0, .int .i64 0, .int .i64 0, .int .u8 0]) (t := 27) ?hr ?_; (case hd => rfl); (case hg => rfl); (case hr => first | (go_simp; done) | (go_simp; rfl)); intro gb277 hg w19 hbox hb; have n0_ := Aside0.mk (blk_below (g := gb260) (o := .cells #[.int .u8 a0_0, .int .i64 a0_1, .int .i64 a0_2, .int .i64 a0_3, .int .i64 a0_4, .int .u8 a0_5, .int .i64 a0_6, .int .i64 a0_7, .bool a0_8, .bool a0_9, .int .u8 a0_10, .int .i64 a0_11, .int .i64 a0_12, .int .i64 a0_13, .int .i64 a0_14, .int .u8 a0_15] 27 (0, 0)) (by (with_reducible repeat (first | refine kN ?_ _ | refine kD ?_ | refine kA ?_ _)); exact BK260.out) hb); have n1_ := Aside0.mk (below_step (by repeat (first | (with_reducible first | exact HB.out | apply kL | apply kM | apply kE | refine kS ?_ GE260.out) | exact HB.out)) hb); have n2_ := Aside0.mk (hbox); have n3_ := Aside0.mk ((by rw [hg]; exact (below_size (by repeat (first | (with_reducible first | exact HB.out | apply kL | apply kM | apply kE | refine kS ?_ GE260.out) | exact HB.out))) : w.heap.size ≤ gb277)); have n4_ := Aside0.mk ((by rw [hg]; exact (below_size (by repeat (first | (with_reducible first | exact HB.out | apply kL | apply kM | apply kE | refine kS ?_ GE260.out) | exact HB.out))) : w.heap.size ≤ gb277)); have n5_ := Aside0.mk ((by rw [hg]; exact Nat.ne_of_lt (blk_lt (g := gb260) (o := .cells #[.int .u8 a0_0, .int .i64 a0_1, .int .i64 a0_2, .int .i64 a0_3, .int .i64 a0_4, .int .u8 a0_5, .int .i64 a0_6, .int .i64 a0_7, .bool a0_8, .bool a0_9, .int .u8 a0_10, .int .i64 a0_11, .int .i64 a0_12, .int .i64 a0_13, .int .i64 a0_14, .int .u8 a0_15] 27 (0, 0)) (by (with_reducible repeat (first | refine kN ?_ _ | refine kD ?_ | refine kA ?_ _)); exact BK260.out)) : gb260 ≠ gb277)); have n6_ := Aside0.mk ((by rw [hg]; exact Nat.ne_of_gt (blk_lt (g := gb260) (o := .cells #[.int .u8 a0_0, .int .i64 a0_1, .int .i64 a0_2, .int .i64 a0_3, .int .i64 a0_4, .int .u8 a0_5, .int .i64 a0_6, .int .i64 a0_7, .bool a0_8, .bool a0_9, .int .u8 a0_10, .int .i64 a0_11, .int .i64 a0_12, .int .i64 a0_13, .int .i64 a0_14, .int .u8 a0_15] 27 (0, 0)) (by (with_reducible repeat (first | refine kN ?_ _ | refine kD ?_ | refine kA ?_ _)); exact BK260.out)) : gb277 ≠ gb260)); clear BK260; clear HB; have BK260 := n0_; have HB := n1_; have BK277 := n2_; have GW277 := n3_; have GE277 := n4_; have NB260_277 := n5_; have NB277_260 := n6_; clear n0_ n1_ n2_ n3_ n4_ n5_ n6_; clear hb hbox hg; have hnb20 := NB277_260.out; have hnc20 := NB260_277.out; obtain ⟨hcz21_0, hcz21_1, hcz21_2, hcz21_3, hcz21_4, hcz21_5, hcz21_6, hcz21_7, hcz21_8, hcz21_9, hcz21_10, hcz21_11, hcz21_12, hcz21_13, hcz21_14, hcz21_15, hfz21_0, hfz21_1, hfz21_2, hfz21_3, hfz21_4, hfz21_5, hfz21_6, hfz21_7, hfz21_8, hfz21_9, hfz21_10, hfz21_11, hfz21_12, hfz21_13, hfz21_14, hfz21_15⟩ := bxc16 BK277.out) | ((with_reducible refine gate_store (t := 27) (p := 5) rfl ?_); refine rec_event (t := 27) (p := 5) (v := ?vo_w22) (g := gb277) (t' := 27) #[.int .u8 0, .int .i64 0, .int .i64 0, .int .i64 0, .int .i64 0, .int .u8 0, .int .i64 0, .int .i64 0, .bool false, .bool false, .int .u8 0, .int .i64 0, .int .i64 0, .int .i64 0, .int .i64 0, .int .u8 0] #[.int .u8 t261, .int .i64 t262, .int .i64 t263, .int .i64 t264, .int .i64 t265, .int .u8 t266, .int .i64 t267, .int .i64 t268, .bool t269, .bool t270, .int .u8 t271, .int .i64 t272, .int .i64 t273, .int .i64 t274, .int .i64 t275, .int .u8 t276] ?hg ?ho ?hn ?hx ?hy ?hb (by rfl) (by kernel_rfl) (by kernel_rfl) ?_; (case ho => rfl); (case hg => rfl); (case hn => rfl); (case hx => rfl); (case hy => rfl); (case hb => exact BK277.out); intro w22 hblk hoth hbel; have n0_ : Aside0 (w22.heap[gb260]? = some (.cells #[.int .u8 a0_0, .int .i64 a0_1, .int .i64 a0_2, .int .i64 a0_3, .int .i64 a0_4, .int .u8 a0_5, .int .i64 a0_6, .int .i64 a0_7, .bool a0_8, .bool a0_9, .int .u8 a0_10, .int .i64 a0_11, .int .i64 a0_12, .int .i64 a0_13, .int .i64 a0_14, .int .u8 a0_15] 27 (0, 0))) := ⟨(hoth gb260 NB260_277.out).trans (by (with_reducible repeat (first | refine kN ?_ _ | refine kD ?_ | refine kA ?_ _)); exact BK260.out)⟩; have n1_ : Aside0 (w22.heap[gb277]? = some (.cells #[.int .u8 t261, .int .i64 t262, .int .i64 t263, .int .i64 t264, .int .i64 t265, .int .u8 t266, .int .i64 t267, .int .i64 t268, .bool t269, .bool t270, .int .u8 t271, .int .i64 t272, .int .i64 t273, .int .i64 t274, .int .i64 t275, .int .u8 t276] 27 (0, 0))) := ⟨hblk⟩; have n2_ : Aside0 (Below w.heap.size w w22) := ⟨Below.trans (by repeat (first | (with_reducible first | exact HB.out | apply kL | apply kM | apply kE | refine kS ?_ GE260.out | refine kS ?_ GE277.out) | exact HB.out)) (hbel _ GE277.out)⟩; clear hblk hoth hbel; clear BK260; clear BK277; clear HB; have BK260 := n0_; have BK277 := n1_; have HB := n2_; clear n0_ n1_ n2_; obtain ⟨hcz23_0, hcz23_1, hcz23_2, hcz23_3, hcz23_4, hcz23_5, hcz23_6, hcz23_7, hcz23_8, hcz23_9, hcz23_10, hcz23_11, hcz23_12, hcz23_13, hcz23_14, hcz23_15, hfz23_0, hfz23_1, hfz23_2, hfz23_3, hfz23_4, hfz23_5, hfz23_6, hfz23_7, hfz23_8, hfz23_9, hfz23_10, hfz23_11, hfz23_12, hfz23_13, hfz23_14, hfz23_15⟩ := bxc16 BK277.out; obtain ⟨hcz24_0, hcz24_1, hcz24_2, hcz24_3, hcz24_4, hcz24_5, hcz24_6, hcz24_7, hcz24_8, hcz24_9, hcz24_10, hcz24_11, hcz24_12, hcz24_13, hcz24_14, hcz24_15, hfz24_0, hfz24_1, hfz24_2, hfz24_3, hfz24_4, hfz24_5, hfz24_6, hfz24_7, hfz24_8, hfz24_9, hfz24_10, hfz24_11, hfz24_12, hfz24_13, hfz24_14, hfz24_15⟩ := bxc16 BK260.out) | ((with_reducible refine gate_dst (N := 19) rfl ?_); refine wpList_load_row rfl 27 (.tmp 5) rfl gb277 rfl 27 #[.int .u8 t261, .int .i64 t262, .int .i64 t263, .int .i64 t264, .int .i64 t265, .int .u8 t266, .int .i64 t267, .int .i64 t268, .bool t269, .bool t270, .int .u8 t271, .int .i64 t272, .int .i64 t273, .int .i64 t274, .int .i64 t275, .int .u8 t276] (0, 0) _ (by (with_reducible repeat (first | refine kN ?_ _ | refine kD ?_ | refine kA ?_ _)); exact BK277.out) Try.underlying27 rfl (by kernel_rfl) ?_) | ((with_reducible refine gate_store (t := 27) (p := 2) rfl ?_); refine rec_event (t := 27) (p := 2) (v := ?vo_w25) (g := gb260) (t' := 27) #[.int .u8 a0_0, .int .i64 a0_1, .int .i64 a0_2, .int .i64 a0_3, .int .i64 a0_4, .int .u8 a0_5, .int .i64 a0_6, .int .i64 a0_7, .bool a0_8, .bool a0_9, .int .u8 a0_10, .int .i64 a0_11, .int .i64 a0_12, .int .i64 a0_13, .int .i64 a0_14, .int .u8 a0_15] #[.int .u8 t261, .int .i64 t262, .int .i64 t263, .int .i64 t264, .int .i64 t265, .int .u8 t266, .int .i64 t267, .int .i64 t268, .bool t269, .bool t270, .int .u8 t271, .int .i64 t272, .int .i64 t273, .int .i64 t274, .int .i64 t275, .int .u8 t276] ?hg ?ho ?hn ?hx ?hy ?hb (by rfl) (by kernel_rfl) (by kernel_rfl) ?_; (case ho => rfl); (case hg => rfl); (case hn => rfl); (case hx => rfl); (case hy => rfl); (case hb => exact BK260.out); intro w25 hblk hoth hbel; have n0_ : Aside0 (w25.heap[gb260]? = some (.cells #[.int .u8 t261, .int .i64 t262, .int .i64 t263, .int .i64 t264, .int .i64 t265, .int .u8 t266, .int .i64 t267, .int .i64 t268, .bool t269, .bool t270, .int .u8 t271, .int .i64 t272, .int .i64 t273, .int .i64 t274, .int .i64 t275, .int .u8 t276] 27 (0, 0))) := ⟨hblk⟩; have n1_ : Aside0 (w25.heap[gb277]? = some (.cells #[.int .u8 t261, .int .i64 t262, .int .i64 t263, .int .i64 t264, .int .i64 t265, .int .u8 t266, .int .i64 t267, .int .i64 t268, .bool t269, .bool t270, .int .u8 t271, .int .i64 t272, .int .i64 t273, .int .i64 t274, .int .i64 t275, .int .u8 t276] 27 (0, 0))) := ⟨(hoth gb277 NB277_260.out).trans (by (with_reducible repeat (first | refine kN ?_ _ | refine kD ?_ | refine kA ?_ _)); exact BK277.out)⟩; have n2_ : Aside0 (Below w.heap.size w w25) := ⟨Below.trans (by repeat (first | (with_reducible first | exact HB.out | apply kL | apply kM | apply kE | refine kS ?_ GE260.out | refine kS ?_ GE277.out) | exact HB.out)) (hbel _ GE260.out)⟩; clear hblk hoth hbel; clear BK260; clear BK277; clear HB; have BK260 := n0_; have BK277 := n1_; have HB := n2_; clear n0_ n1_ n2_))
    go_meet
    case rel => exact ⟨_, (t261), (t262), (t263), (t264), (t265), (t266), (t267), (t268), (t269), (t270), (t271), (t272), (t273), (t274), (t275), (t276), (by first | (with_reducible exact H') | (simp only [*]; with_reducible exact H') | exact H'), ⟨by first | omega | exact Nat.le_refl _⟩, ⟨by (with_reducible repeat (first | refine kN ?_ _ | refine kD ?_ | refine kA ?_ _)); exact BK260.out⟩, ⟨by repeat (first | (with_reducible first | exact HB.out | apply kL | apply kM | apply kE | refine kS ?_ GE260.out | refine kS ?_ GE277.out) | exact HB.out)⟩⟩
  ·rw [if_neg c5] at H
   have c5b0 : decide (64 ≤ a1) = false := decide_eq_false c5
   clear c5
   (first | (generalize hg_ : decide (64 ≤ a1) = bg_ at *; subst c5b0; have c5b0 := hg_; clear hg_) | rw [c5b0] | (simp only [i64_w, i32_w]; rw [c5b0]) | skip)
   have H' := Aside0.mk H
   clear H
   go_wp2
   go_meet
   case rel => exact ⟨_, (a0_0), (a0_1), (a0_2), (a0_3), (a0_4), (a0_5), (a0_6), (a0_7), (a0_8), (a0_9), (a0_10), (a0_11), (a0_12), (a0_13), (a0_14), (a0_15), (by first | (with_reducible exact H') | (simp only [*]; with_reducible exact H') | exact H'), ⟨by first | omega | exact Nat.le_refl _⟩, ⟨by (with_reducible repeat (first | refine kN ?_ _ | refine kD ?_ | refine kA ?_ _)); exact BK260.out⟩, ⟨by repeat (first | (with_reducible first | exact HB.out | apply kL | apply kM | apply kE | refine kS ?_ GE260.out) | exact HB.out)⟩⟩
 case rest =>
  clear HC3
  try clear c1
  try clear p1
  try clear c2
  try clear p2
  try clear c3
  try clear c5
  try clear c5b0
  try clear p6
  try clear c7
  try clear c7b0
  try clear c9
  try clear c11
  try clear c16
  try clear p16
  try clear c20
  try clear hcz12_0
  try clear hcz12_1
  try clear hcz12_10
  try clear hcz12_11
  try clear hcz12_12
  try clear hcz12_13
  try clear hcz12_14
  try clear hcz12_15
  try clear hcz12_2
  try clear hcz12_3
  try clear hcz12_4
  try clear hcz12_5
  try clear hcz12_6
  try clear hcz12_7
  try clear hcz12_8
  try clear hcz12_9
  try clear hcz14_0
  try clear hcz14_1
  try clear hcz14_10
  try clear hcz14_11
  try clear hcz14_12
  try clear hcz14_13
  try clear hcz14_14
  try clear hcz14_15
  try clear hcz14_2
  try clear hcz14_3
  try clear hcz14_4
  try clear hcz14_5
  try clear hcz14_6
  try clear hcz14_7
  try clear hcz14_8
  try clear hcz14_9
  try clear hcz15_0
  try clear hcz15_1
  try clear hcz15_10
  try clear hcz15_11
  try clear hcz15_12
  try clear hcz15_13
  try clear hcz15_14
  try clear hcz15_15
  try clear hcz15_2
  try clear hcz15_3
  try clear hcz15_4
  try clear hcz15_5
  try clear hcz15_6
  try clear hcz15_7
  try clear hcz15_8
  try clear hcz15_9
  try clear hcz17_0
  try clear hcz17_1
  try clear hcz17_10
  try clear hcz17_11
  try clear hcz17_12
  try clear hcz17_13
  try clear hcz17_14
  try clear hcz17_15
  try clear hcz17_2
  try clear hcz17_3
  try clear hcz17_4
  try clear hcz17_5
  try clear hcz17_6
  try clear hcz17_7
  try clear hcz17_8
  try clear hcz17_9
  try clear hcz21_0
  try clear hcz21_1
  try clear hcz21_10
  try clear hcz21_11
  try clear hcz21_12
  try clear hcz21_13
  try clear hcz21_14
  try clear hcz21_15
  try clear hcz21_2
  try clear hcz21_3
  try clear hcz21_4
  try clear hcz21_5
  try clear hcz21_6
  try clear hcz21_7
  try clear hcz21_8
  try clear hcz21_9
  try clear hcz23_0
  try clear hcz23_1
  try clear hcz23_10
  try clear hcz23_11
  try clear hcz23_12
  try clear hcz23_13
  try clear hcz23_14
  try clear hcz23_15
  try clear hcz23_2
  try clear hcz23_3
  try clear hcz23_4
  try clear hcz23_5
  try clear hcz23_6
  try clear hcz23_7
  try clear hcz23_8
  try clear hcz23_9
  try clear hcz24_0
  try clear hcz24_1
  try clear hcz24_10
  try clear hcz24_11
  try clear hcz24_12
  try clear hcz24_13
  try clear hcz24_14
  try clear hcz24_15
  try clear hcz24_2
  try clear hcz24_3
  try clear hcz24_4
  try clear hcz24_5
  try clear hcz24_6
  try clear hcz24_7
  try clear hcz24_8
  try clear hcz24_9
  try clear hcz8_0
  try clear hcz8_1
  try clear hcz8_10
  try clear hcz8_11
  try clear hcz8_12
  try clear hcz8_13
  try clear hcz8_14
  try clear hcz8_15
  try clear hcz8_2
  try clear hcz8_3
  try clear hcz8_4
  try clear hcz8_5
  try clear hcz8_6
  try clear hcz8_7
  try clear hcz8_8
  try clear hcz8_9
  try clear hfz12_0
  try clear hfz12_1
  try clear hfz12_10
  try clear hfz12_11
  try clear hfz12_12
  try clear hfz12_13
  try clear hfz12_14
  try clear hfz12_15
  try clear hfz12_2
  try clear hfz12_3
  try clear hfz12_4
  try clear hfz12_5
  try clear hfz12_6
  try clear hfz12_7
  try clear hfz12_8
  try clear hfz12_9
  try clear hfz14_0
  try clear hfz14_1
  try clear hfz14_10
  try clear hfz14_11
  try clear hfz14_12
  try clear hfz14_13
  try clear hfz14_14
  try clear hfz14_15
  try clear hfz14_2
  try clear hfz14_3
  try clear hfz14_4
  try clear hfz14_5
  try clear hfz14_6
  try clear hfz14_7
  try clear hfz14_8
  try clear hfz14_9
  try clear hfz15_0
  try clear hfz15_1
  try clear hfz15_10
  try clear hfz15_11
  try clear hfz15_12
  try clear hfz15_13
  try clear hfz15_14
  try clear hfz15_15
  try clear hfz15_2
  try clear hfz15_3
  try clear hfz15_4
  try clear hfz15_5
  try clear hfz15_6
  try clear hfz15_7
  try clear hfz15_8
  try clear hfz15_9
  try clear hfz17_0
  try clear hfz17_1
  try clear hfz17_10
  try clear hfz17_11
  try clear hfz17_12
  try clear hfz17_13
  try clear hfz17_14
  try clear hfz17_15
  try clear hfz17_2
  try clear hfz17_3
  try clear hfz17_4
  try clear hfz17_5
  try clear hfz17_6
  try clear hfz17_7
  try clear hfz17_8
  try clear hfz17_9
  try clear hfz21_0
  try clear hfz21_1
  try clear hfz21_10
  try clear hfz21_11
  try clear hfz21_12
  try clear hfz21_13
  try clear hfz21_14
  try clear hfz21_15
  try clear hfz21_2
  try clear hfz21_3
  try clear hfz21_4
  try clear hfz21_5
  try clear hfz21_6
  try clear hfz21_7
  try clear hfz21_8
  try clear hfz21_9
  try clear hfz23_0
  try clear hfz23_1
  try clear hfz23_10
  try clear hfz23_11
  try clear hfz23_12
  try clear hfz23_13
  try clear hfz23_14
  try clear hfz23_15
  try clear hfz23_2
  try clear hfz23_3
  try clear hfz23_4
  try clear hfz23_5
  try clear hfz23_6
  try clear hfz23_7
  try clear hfz23_8
  try clear hfz23_9
  try clear hfz24_0
  try clear hfz24_1
  try clear hfz24_10
  try clear hfz24_11
  try clear hfz24_12
  try clear hfz24_13
  try clear hfz24_14
  try clear hfz24_15
  try clear hfz24_2
  try clear hfz24_3
  try clear hfz24_4
  try clear hfz24_5
  try clear hfz24_6
  try clear hfz24_7
  try clear hfz24_8
  try clear hfz24_9
  try clear hfz8_0
  try clear hfz8_1
  try clear hfz8_10
  try clear hfz8_11
  try clear hfz8_12
  try clear hfz8_13
  try clear hfz8_14
  try clear hfz8_15
  try clear hfz8_2
  try clear hfz8_3
  try clear hfz8_4
  try clear hfz8_5
  try clear hfz8_6
  try clear hfz8_7
  try clear hfz8_8
  try clear hfz8_9
  obtain ⟨kq, x261000_2, x261001_2, x261002_2, x261003_2, x261004_2, x261005_2, x261006_2, x261007_2, x261008_2, x261009_2, x261010_2, x261011_2, x261012_2, x261013_2, x261014_2, x261015_2, HA, HJ2, BK260, HB⟩ := hcut
  cases kq with
  | zero => exact absurd HA.out (by simp [paybooklaw10_OrderRights.j0])
  | succ kj2 =>
   have H := HA.out
   clear HA
   simp only [paybooklaw10_OrderRights.j0] at H
   replace H := Option.bind_eq_some_iff.mp H
   obtain ⟨t278, A260, H⟩ := H
   replace H : (if t278 = true then ((order_Right.f kj2 x261000_2 x261001_2 x261002_2 x261003_2 x261004_2 x261005_2 x261006_2 x261007_2 x261008_2 x261009_2 x261010_2 x261011_2 x261012_2 x261013_2 x261014_2 x261015_2).bind fun t279 => ((paybooklaw10_right.f kj2 x261000_2 x261001_2 x261002_2 x261003_2 x261004_2 x261005_2 x261006_2 x261007_2 x261008_2 x261009_2 x261010_2 x261011_2 x261012_2 x261013_2 x261014_2 x261015_2).bind fun t280 => (if t279 = t280 then ((order_Key.f x261010_2 x261011_2 x261012_2 x261013_2 x261014_2 x261015_2).bind fun t281 => ((paybooklaw10_key.f x261010_2 x261011_2 x261012_2 x261013_2 x261014_2 x261015_2).bind fun t282 => (some (t281 == t282)))) else (some false)))) else (some false)) = some true := H
   have A26 := Aside0.mk A260
   clear A260
   by_cases c27 : t278 = true
   ·subst c27
    have H1 : ((order_Right.f kj2 x261000_2 x261001_2 x261002_2 x261003_2 x261004_2 x261005_2 x261006_2 x261007_2 x261008_2 x261009_2 x261010_2 x261011_2 x261012_2 x261013_2 x261014_2 x261015_2).bind fun t279 => ((paybooklaw10_right.f kj2 x261000_2 x261001_2 x261002_2 x261003_2 x261004_2 x261005_2 x261006_2 x261007_2 x261008_2 x261009_2 x261010_2 x261011_2 x261012_2 x261013_2 x261014_2 x261015_2).bind fun t280 => (if t279 = t280 then ((order_Key.f x261010_2 x261011_2 x261012_2 x261013_2 x261014_2 x261015_2).bind fun t281 => ((paybooklaw10_key.f x261010_2 x261011_2 x261012_2 x261013_2 x261014_2 x261015_2).bind fun t282 => (some (t281 == t282)))) else (some false)))) = some true := by rw [if_pos rfl] at H; try exact H
    clear H
    have H := H1
    clear H1
    replace H := Option.bind_eq_some_iff.mp H
    obtain ⟨t279, A280, H⟩ := H
    replace H : ((paybooklaw10_right.f kj2 x261000_2 x261001_2 x261002_2 x261003_2 x261004_2 x261005_2 x261006_2 x261007_2 x261008_2 x261009_2 x261010_2 x261011_2 x261012_2 x261013_2 x261014_2 x261015_2).bind fun t280 => (if t279 = t280 then ((order_Key.f x261010_2 x261011_2 x261012_2 x261013_2 x261014_2 x261015_2).bind fun t281 => ((paybooklaw10_key.f x261010_2 x261011_2 x261012_2 x261013_2 x261014_2 x261015_2).bind fun t282 => (some (t281 == t282)))) else (some false))) = some true := H
    have A28 := Aside0.mk A280
    clear A280
    replace H := Option.bind_eq_some_iff.mp H
    obtain ⟨t280, A290, H⟩ := H
    replace H : (if t279 = t280 then ((order_Key.f x261010_2 x261011_2 x261012_2 x261013_2 x261014_2 x261015_2).bind fun t281 => ((paybooklaw10_key.f x261010_2 x261011_2 x261012_2 x261013_2 x261014_2 x261015_2).bind fun t282 => (some (t281 == t282)))) else (some false)) = some true := H
    have A29 := Aside0.mk A290
    clear A290
    by_cases c30 : t279 = t280
    ·rw [if_pos c30] at H
     have c30b0 : (t279 == t280) = true := beq_iff_eq.mpr c30
     have c30b1 : (t279 != t280) = false := bne_eq_false_iff_eq.mpr c30
     clear c30
     replace H := Option.bind_eq_some_iff.mp H
     obtain ⟨t281, A310, H⟩ := H
     replace H : ((paybooklaw10_key.f x261010_2 x261011_2 x261012_2 x261013_2 x261014_2 x261015_2).bind fun t282 => (some (t281 == t282))) = some true := H
     have A31 := Aside0.mk A310
     clear A310
     replace H := Option.bind_eq_some_iff.mp H
     obtain ⟨t282, A320, H⟩ := H
     replace H : (some (t281 == t282)) = some true := H
     have A32 := Aside0.mk A320
     clear A320
     have HT_ := Option.some.inj H
     clear H
     (try (have HT_z_ := HT_; simp only [beq_true, beq_false, true_beq, false_beq, Bool.not_eq_true', Bool.not_eq_false', Bool.not_true, Bool.not_false] at HT_z_)); (try (have HT_y_ := HT_; simp only [beq_self_eq_true, Bool.true_and, beq_false, beq_true, Bool.eq_false_iff, ne_eq, Bool.and_eq_true] at HT_y_))
     try go_wp2
     have n0_ := Aside0.mk (kD BK260.out)
     have n1_ := Aside0.mk (kE HB.out)
     clear BK260
     clear HB
     have BK260 := n0_
     have HB := n1_
     clear n0_ n1_
     refine start_ (n := 18) (S := fun w' => w'.cell? ⟨gb260, 0, none⟩ = some (.int .u8 x261000_2) ∧ w'.cell? ⟨gb260, 1, none⟩ = some (.int .i64 x261001_2) ∧ w'.cell? ⟨gb260, 2, none⟩ = some (.int .i64 x261002_2) ∧ w'.cell? ⟨gb260, 3, none⟩ = some (.int .i64 x261003_2) ∧ w'.cell? ⟨gb260, 4, none⟩ = some (.int .i64 x261004_2) ∧ w'.cell? ⟨gb260, 5, none⟩ = some (.int .u8 x261005_2) ∧ w'.cell? ⟨gb260, 6, none⟩ = some (.int .i64 x261006_2) ∧ w'.cell? ⟨gb260, 7, none⟩ = some (.int .i64 x261007_2) ∧ w'.cell? ⟨gb260, 8, none⟩ = some (.bool x261008_2) ∧ w'.cell? ⟨gb260, 9, none⟩ = some (.bool x261009_2) ∧ w'.cell? ⟨gb260, 10, none⟩ = some (.int .u8 x261010_2) ∧ w'.cell? ⟨gb260, 11, none⟩ = some (.int .i64 x261011_2) ∧ w'.cell? ⟨gb260, 12, none⟩ = some (.int .i64 x261012_2) ∧ w'.cell? ⟨gb260, 13, none⟩ = some (.int .i64 x261013_2) ∧ w'.cell? ⟨gb260, 14, none⟩ = some (.int .i64 x261014_2) ∧ w'.cell? ⟨gb260, 15, none⟩ = some (.int .u8 x261015_2)) (ds := []) #[F,F,F,F,F,F,F,F,F,F,F,F,F,F,F,F,F,F] (by kernel_rfl) rfl rfl ⟨(kC BK260.out 0).trans rfl, (kC BK260.out 1).trans rfl, (kC BK260.out 2).trans rfl, (kC BK260.out 3).trans rfl, (kC BK260.out 4).trans rfl, (kC BK260.out 5).trans rfl, (kC BK260.out 6).trans rfl, (kC BK260.out 7).trans rfl, (kC BK260.out 8).trans rfl, (kC BK260.out 9).trans rfl, (kC BK260.out 10).trans rfl, (kC BK260.out 11).trans rfl, (kC BK260.out 12).trans rfl, (kC BK260.out 13).trans rfl, (kC BK260.out 14).trans rfl, (kC BK260.out 15).trans rfl⟩ (fun hHeld => ?_); refine with_tabW paybooklaw10_OrderRights.tab6 paybooklaw10_OrderRights.bits6 (fun HT_ HW_ => ?_)
     generalize wc.drew = w33 at BK260 HB hHeld ⊢
     refine one_ (i := 0) (N := some 20) #[T,F,F,F,F,F,F,F,F,F,F,F,F,F,F,F,F,F] rfl rfl (one_of HT_.out (by kernel_rfl)) (by decide) (fun K hK => ?_)
     refine goes_ Try.func10 (by kernel_rfl) rfl #[] (by rfl) rfl rfl (by (try simp only [List.map_toArray, List.map_cons, List.map_nil]); first | done | rfl | (simp only [List.length_drop, List.length_take]; rfl)) ?_
     with_reducible refine (paybooklaw10_awake.calls kj2  true _ A26.out).mono ?_
     rintro e w34 ⟨rfl, hb⟩
     refine ⟨_, rfl, ?_⟩
     have n0_ := Aside0.mk (blk_below (g := gb260) (o := .cells #[.int .u8 x261000_2, .int .i64 x261001_2, .int .i64 x261002_2, .int .i64 x261003_2, .int .i64 x261004_2, .int .u8 x261005_2, .int .i64 x261006_2, .int .i64 x261007_2, .bool x261008_2, .bool x261009_2, .int .u8 x261010_2, .int .i64 x261011_2, .int .i64 x261012_2, .int .i64 x261013_2, .int .i64 x261014_2, .int .u8 x261015_2] 27 (0, 0)) (by (with_reducible repeat (first | refine kN ?_ _ | refine kD ?_ | refine kA ?_ _)); exact BK260.out) hb)
     have n1_ := Aside0.mk (below_step (by repeat (first | (with_reducible first | exact HB.out | apply kL | apply kM | apply kE | refine kS ?_ GE260.out) | exact HB.out)) hb)
     clear BK260
     clear HB
     have BK260 := n0_
     have HB := n1_
     clear n0_ n1_
     (try clear hb)
     (try clear hb2)
     (try clear hk)
     (try clear hi)
     refine hK.out _ _ ⟨(kC BK260.out 0).trans rfl, (kC BK260.out 1).trans rfl, (kC BK260.out 2).trans rfl, (kC BK260.out 3).trans rfl, (kC BK260.out 4).trans rfl, (kC BK260.out 5).trans rfl, (kC BK260.out 6).trans rfl, (kC BK260.out 7).trans rfl, (kC BK260.out 8).trans rfl, (kC BK260.out 9).trans rfl, (kC BK260.out 10).trans rfl, (kC BK260.out 11).trans rfl, (kC BK260.out 12).trans rfl, (kC BK260.out 13).trans rfl, (kC BK260.out 14).trans rfl, (kC BK260.out 15).trans rfl⟩ (fun hHeld => ?_)
     clear hK K
     refine norm_ (a' := ?_) ?_ ?_
     rotate_left
     ·show Act.put _ (some 20) _ = _
      simp only [Act.put, List.setIfInBounds_toArray, List.set_cons_zero, List.set_cons_succ, i64_w, i32_w]
      rfl
     refine pure_ (i := 1) (N := some 21) (v := ?_) (a' := ?_) #[T,T,F,F,F,F,F,F,F,F,F,F,F,F,F,F,F,F] rfl rfl (any_of HT_.out (by kernel_rfl)) (fun _ _ _ h => h) (Or.inl ⟨by rfl, ?_⟩) ?_ ?_
     rotate_left
     ·intro w'
      go_simp
      with_reducible rfl
     rotate_left
     ·simp only [Act.put, List.setIfInBounds_toArray, List.set_cons_zero, List.set_cons_succ, i64_w, i32_w]
      rfl
     refine take_ (i := 2) (N := some 22) (v := ?_) (a' := ?_) #[T,T,T,F,F,F,F,F,F,F,F,F,F,F,F,F,F,F] rfl rfl (take_ofW HT_.out HW_.out (by kernel_rfl)) (fun _ _ _ h => h) (Or.inl ⟨by rfl, ?_⟩) hHeld ?_ ?_
     rotate_left
     ·rintro w' ⟨s0, s1, s2, s3, s4, s5, s6, s7, s8, s9, s10, s11, s12, s13, s14, s15⟩
      go_simp
      with_reducible rfl
     rotate_left
     ·simp only [Act.put, List.setIfInBounds_toArray, List.set_cons_zero, List.set_cons_succ, i64_w, i32_w]
      rfl
     refine take_ (i := 4) (N := some 24) (v := ?_) (a' := ?_) #[T,T,T,F,T,F,F,F,F,F,F,F,F,F,F,F,F,F] rfl rfl (take_ofW HT_.out HW_.out (by kernel_rfl)) (fun _ _ _ h => h) (Or.inl ⟨by rfl, ?_⟩) hHeld ?_ ?_
     rotate_left
     ·rintro w' ⟨s0, s1, s2, s3, s4, s5, s6, s7, s8, s9, s10, s11, s12, s13, s14, s15⟩
      go_simp
      with_reducible rfl
     rotate_left
     ·simp only [Act.put, List.setIfInBounds_toArray, List.set_cons_zero, List.set_cons_succ, i64_w, i32_w]
      rfl
     refine one_ (i := 3) (N := some 23) #[T,T,T,T,T,F,F,F,F,F,F,F,F,F,F,F,F,F] rfl rfl (one_of HT_.out (by kernel_rfl)) (by decide) (fun K hK => ?_)
     refine goes_ Try.func11 (by kernel_rfl) rfl #[.agg #[.int .u8 x261000_2, .int .i64 x261001_2, .int .i64 x261002_2, .int .i64 x261003_2, .int .i64 x261004_2, .int .u8 x261005_2, .int .i64 x261006_2, .int .i64 x261007_2, .bool x261008_2, .bool x261009_2, .int .u8 x261010_2, .int .i64 x261011_2, .int .i64 x261012_2, .int .i64 x261013_2, .int .i64 x261014_2, .int .u8 x261015_2]] (by rfl) rfl rfl (by (try simp only [List.map_toArray, List.map_cons, List.map_nil]); first | done | rfl | (simp only [List.length_drop, List.length_take]; rfl)) ?_
     with_reducible refine (order_Right.calls kj2 x261000_2 x261001_2 x261002_2 x261003_2 x261004_2 x261005_2 x261006_2 x261007_2 x261008_2 x261009_2 x261010_2 x261011_2 x261012_2 x261013_2 x261014_2 x261015_2 t279 _ A28.out).mono ?_
     rintro e w35 ⟨rfl, hb⟩
     refine ⟨_, rfl, ?_⟩
     have n0_ := Aside0.mk (blk_below (g := gb260) (o := .cells #[.int .u8 x261000_2, .int .i64 x261001_2, .int .i64 x261002_2, .int .i64 x261003_2, .int .i64 x261004_2, .int .u8 x261005_2, .int .i64 x261006_2, .int .i64 x261007_2, .bool x261008_2, .bool x261009_2, .int .u8 x261010_2, .int .i64 x261011_2, .int .i64 x261012_2, .int .i64 x261013_2, .int .i64 x261014_2, .int .u8 x261015_2] 27 (0, 0)) (by (with_reducible repeat (first | refine kN ?_ _ | refine kD ?_ | refine kA ?_ _)); exact BK260.out) hb)
     have n1_ := Aside0.mk (below_step (by repeat (first | (with_reducible first | exact HB.out | apply kL | apply kM | apply kE | refine kS ?_ GE260.out) | exact HB.out)) hb)
     clear BK260
     clear HB
     have BK260 := n0_
     have HB := n1_
     clear n0_ n1_
     (try clear hb)
     (try clear hb2)
     (try clear hk)
     (try clear hi)
     refine hK.out _ _ ⟨(kC BK260.out 0).trans rfl, (kC BK260.out 1).trans rfl, (kC BK260.out 2).trans rfl, (kC BK260.out 3).trans rfl, (kC BK260.out 4).trans rfl, (kC BK260.out 5).trans rfl, (kC BK260.out 6).trans rfl, (kC BK260.out 7).trans rfl, (kC BK260.out 8).trans rfl, (kC BK260.out 9).trans rfl, (kC BK260.out 10).trans rfl, (kC BK260.out 11).trans rfl, (kC BK260.out 12).trans rfl, (kC BK260.out 13).trans rfl, (kC BK260.out 14).trans rfl, (kC BK260.out 15).trans rfl⟩ (fun hHeld => ?_)
     clear hK K
     refine norm_ (a' := ?_) ?_ ?_
     rotate_left
     ·show Act.put _ (some 23) _ = _
      simp only [Act.put, List.setIfInBounds_toArray, List.set_cons_zero, List.set_cons_succ, i64_w, i32_w]
      rfl
     refine one_ (i := 5) (N := some 25) #[T,T,T,T,T,T,F,F,F,F,F,F,F,F,F,F,F,F] rfl rfl (one_of HT_.out (by kernel_rfl)) (by decide) (fun K hK => ?_)
     refine goes_ Try.func12 (by kernel_rfl) rfl #[.agg #[.int .u8 x261000_2, .int .i64 x261001_2, .int .i64 x261002_2, .int .i64 x261003_2, .int .i64 x261004_2, .int .u8 x261005_2, .int .i64 x261006_2, .int .i64 x261007_2, .bool x261008_2, .bool x261009_2, .int .u8 x261010_2, .int .i64 x261011_2, .int .i64 x261012_2, .int .i64 x261013_2, .int .i64 x261014_2, .int .u8 x261015_2]] (by rfl) rfl rfl (by (try simp only [List.map_toArray, List.map_cons, List.map_nil]); first | done | rfl | (simp only [List.length_drop, List.length_take]; rfl)) ?_
     with_reducible refine (paybooklaw10_right.calls kj2 x261000_2 x261001_2 x261002_2 x261003_2 x261004_2 x261005_2 x261006_2 x261007_2 x261008_2 x261009_2 x261010_2 x261011_2 x261012_2 x261013_2 x261014_2 x261015_2 t280 _ A29.out).mono ?_
     rintro e w36 ⟨rfl, hb⟩
     refine ⟨_, rfl, ?_⟩
     have n0_ := Aside0.mk (blk_below (g := gb260) (o := .cells #[.int .u8 x261000_2, .int .i64 x261001_2, .int .i64 x261002_2, .int .i64 x261003_2, .int .i64 x261004_2, .int .u8 x261005_2, .int .i64 x261006_2, .int .i64 x261007_2, .bool x261008_2, .bool x261009_2, .int .u8 x261010_2, .int .i64 x261011_2, .int .i64 x261012_2, .int .i64 x261013_2, .int .i64 x261014_2, .int .u8 x261015_2] 27 (0, 0)) (by (with_reducible repeat (first | refine kN ?_ _ | refine kD ?_ | refine kA ?_ _)); exact BK260.out) hb)
     have n1_ := Aside0.mk (below_step (by repeat (first | (with_reducible first | exact HB.out | apply kL | apply kM | apply kE | refine kS ?_ GE260.out) | exact HB.out)) hb)
     clear BK260
     clear HB
     have BK260 := n0_
     have HB := n1_
     clear n0_ n1_
     (try clear hb)
     (try clear hb2)
     (try clear hk)
     (try clear hi)
     refine hK.out _ _ ⟨(kC BK260.out 0).trans rfl, (kC BK260.out 1).trans rfl, (kC BK260.out 2).trans rfl, (kC BK260.out 3).trans rfl, (kC BK260.out 4).trans rfl, (kC BK260.out 5).trans rfl, (kC BK260.out 6).trans rfl, (kC BK260.out 7).trans rfl, (kC BK260.out 8).trans rfl, (kC BK260.out 9).trans rfl, (kC BK260.out 10).trans rfl, (kC BK260.out 11).trans rfl, (kC BK260.out 12).trans rfl, (kC BK260.out 13).trans rfl, (kC BK260.out 14).trans rfl, (kC BK260.out 15).trans rfl⟩ (fun hHeld => ?_)
     clear hK K
     refine norm_ (a' := ?_) ?_ ?_
     rotate_left
     ·show Act.put _ (some 25) _ = _
      simp only [Act.put, List.setIfInBounds_toArray, List.set_cons_zero, List.set_cons_succ, i64_w, i32_w]
      rfl
     refine pure_ (i := 6) (N := some 26) (v := ?_) (a' := ?_) #[T,T,T,T,T,T,T,F,F,F,F,F,F,F,F,F,F,F] rfl rfl (any_of HT_.out (by kernel_rfl)) (fun _ _ _ h => h) (Or.inl ⟨by rfl, ?_⟩) ?_ ?_
     rotate_left
     ·intro w'
      go_simp
      with_reducible rfl
     rotate_left
     ·simp only [Act.put, List.setIfInBounds_toArray, List.set_cons_zero, List.set_cons_succ, i64_w, i32_w]
      rfl
     refine pure_ (i := 7) (N := some 27) (v := ?_) (a' := ?_) #[T,T,T,T,T,T,T,T,F,F,F,F,F,F,F,F,F,F] rfl rfl (any_of HT_.out (by kernel_rfl)) (fun _ _ _ h => h) (Or.inl ⟨by rfl, ?_⟩) ?_ ?_
     rotate_left
     ·intro w'
      go_simp
      with_reducible rfl
     rotate_left
     ·simp only [Act.put, List.setIfInBounds_toArray, List.set_cons_zero, List.set_cons_succ, i64_w, i32_w]
      rfl
     refine pure_ (i := 8) (N := some 28) (v := ?_) (a' := ?_) #[T,T,T,T,T,T,T,T,T,F,F,F,F,F,F,F,F,F] rfl rfl (any_of HT_.out (by kernel_rfl)) (fun _ _ _ h => h) (Or.inl ⟨by rfl, ?_⟩) ?_ ?_
     rotate_left
     ·intro w'
      go_simp
      with_reducible rfl
     rotate_left
     ·simp only [Act.put, List.setIfInBounds_toArray, List.set_cons_zero, List.set_cons_succ, i64_w, i32_w]
      rfl
     refine pure_ (i := 9) (N := some 29) (v := ?_) (a' := ?_) #[T,T,T,T,T,T,T,T,T,T,F,F,F,F,F,F,F,F] rfl rfl (any_of HT_.out (by kernel_rfl)) (fun _ _ _ h => h) (Or.inl ⟨by rfl, ?_⟩) ?_ ?_
     rotate_left
     ·intro w'
      go_simp
      with_reducible rfl
     rotate_left
     ·simp only [Act.put, List.setIfInBounds_toArray, List.set_cons_zero, List.set_cons_succ, i64_w, i32_w]
      rfl
     refine pure_ (i := 12) (N := some 32) (v := ?_) (a' := ?_) #[T,T,T,T,T,T,T,T,T,T,F,F,T,F,F,F,F,F] rfl rfl (any_of HT_.out (by kernel_rfl)) (fun _ _ _ h => h) (Or.inl ⟨by rfl, ?_⟩) ?_ ?_
     rotate_left
     ·intro w'
      go_simp
      with_reducible rfl
     rotate_left
     ·simp only [Act.put, List.setIfInBounds_toArray, List.set_cons_zero, List.set_cons_succ, i64_w, i32_w]
      rfl
     refine take_ (i := 10) (N := some 30) (v := ?_) (a' := ?_) #[T,T,T,T,T,T,T,T,T,T,T,F,T,F,F,F,F,F] rfl rfl (take_ofW HT_.out HW_.out (by kernel_rfl)) (fun _ _ _ h => h) (Or.inl ⟨by rfl, ?_⟩) hHeld ?_ ?_
     rotate_left
     ·rintro w' ⟨s0, s1, s2, s3, s4, s5, s6, s7, s8, s9, s10, s11, s12, s13, s14, s15⟩
      go_simp
      with_reducible rfl
     rotate_left
     ·simp only [Act.put, List.setIfInBounds_toArray, List.set_cons_zero, List.set_cons_succ, i64_w, i32_w]
      rfl
     refine take_ (i := 13) (N := some 33) (v := ?_) (a' := ?_) #[T,T,T,T,T,T,T,T,T,T,T,F,T,T,F,F,F,F] rfl rfl (take_ofW HT_.out HW_.out (by kernel_rfl)) (fun _ _ _ h => h) (Or.inl ⟨by rfl, ?_⟩) hHeld ?_ ?_
     rotate_left
     ·rintro w' ⟨s0, s1, s2, s3, s4, s5, s6, s7, s8, s9, s10, s11, s12, s13, s14, s15⟩
      go_simp
      with_reducible rfl
     rotate_left
     ·simp only [Act.put, List.setIfInBounds_toArray, List.set_cons_zero, List.set_cons_succ, i64_w, i32_w]
      rfl
     refine one_ (i := 11) (N := some 31) #[T,T,T,T,T,T,T,T,T,T,T,T,T,T,F,F,F,F] rfl rfl (one_of HT_.out (by kernel_rfl)) (by decide) (fun K hK => ?_)
     refine goes_ Try.func13 (by kernel_rfl) rfl #[.agg #[.int .u8 x261010_2, .int .i64 x261011_2, .int .i64 x261012_2, .int .i64 x261013_2, .int .i64 x261014_2, .int .u8 x261015_2]] (by rfl) rfl rfl (by (try simp only [List.map_toArray, List.map_cons, List.map_nil]); first | done | rfl | (simp only [List.length_drop, List.length_take]; rfl)) ?_
     with_reducible refine (order_Key.calls x261010_2 x261011_2 x261012_2 x261013_2 x261014_2 x261015_2 t281 _ A31.out).mono ?_
     rintro e w37 ⟨rfl, hb⟩
     refine ⟨_, rfl, ?_⟩
     have n0_ := Aside0.mk (blk_below (g := gb260) (o := .cells #[.int .u8 x261000_2, .int .i64 x261001_2, .int .i64 x261002_2, .int .i64 x261003_2, .int .i64 x261004_2, .int .u8 x261005_2, .int .i64 x261006_2, .int .i64 x261007_2, .bool x261008_2, .bool x261009_2, .int .u8 x261010_2, .int .i64 x261011_2, .int .i64 x261012_2, .int .i64 x261013_2, .int .i64 x261014_2, .int .u8 x261015_2] 27 (0, 0)) (by (with_reducible repeat (first | refine kN ?_ _ | refine kD ?_ | refine kA ?_ _)); exact BK260.out) hb)
     have n1_ := Aside0.mk (below_step (by repeat (first | (with_reducible first | exact HB.out | apply kL | apply kM | apply kE | refine kS ?_ GE260.out) | exact HB.out)) hb)
     clear BK260
     clear HB
     have BK260 := n0_
     have HB := n1_
     clear n0_ n1_
     (try clear hb)
     (try clear hb2)
     (try clear hk)
     (try clear hi)
     refine hK.out _ _ ⟨(kC BK260.out 0).trans rfl, (kC BK260.out 1).trans rfl, (kC BK260.out 2).trans rfl, (kC BK260.out 3).trans rfl, (kC BK260.out 4).trans rfl, (kC BK260.out 5).trans rfl, (kC BK260.out 6).trans rfl, (kC BK260.out 7).trans rfl, (kC BK260.out 8).trans rfl, (kC BK260.out 9).trans rfl, (kC BK260.out 10).trans rfl, (kC BK260.out 11).trans rfl, (kC BK260.out 12).trans rfl, (kC BK260.out 13).trans rfl, (kC BK260.out 14).trans rfl, (kC BK260.out 15).trans rfl⟩ (fun hHeld => ?_)
     clear hK K
     refine norm_ (a' := ?_) ?_ ?_
     rotate_left
     ·show Act.put _ (some 31) _ = _
      simp only [Act.put, List.setIfInBounds_toArray, List.set_cons_zero, List.set_cons_succ, i64_w, i32_w]
      rfl
     refine one_ (i := 14) (N := some 34) #[T,T,T,T,T,T,T,T,T,T,T,T,T,T,T,F,F,F] rfl rfl (one_of HT_.out (by kernel_rfl)) (by decide) (fun K hK => ?_)
     refine goes_ Try.func14 (by kernel_rfl) rfl #[.agg #[.int .u8 x261010_2, .int .i64 x261011_2, .int .i64 x261012_2, .int .i64 x261013_2, .int .i64 x261014_2, .int .u8 x261015_2]] (by rfl) rfl rfl (by (try simp only [List.map_toArray, List.map_cons, List.map_nil]); first | done | rfl | (simp only [List.length_drop, List.length_take]; rfl)) ?_
     with_reducible refine (paybooklaw10_key.calls x261010_2 x261011_2 x261012_2 x261013_2 x261014_2 x261015_2 t282 _ A32.out).mono ?_
     rintro e w38 ⟨rfl, hb⟩
     refine ⟨_, rfl, ?_⟩
     have n0_ := Aside0.mk (blk_below (g := gb260) (o := .cells #[.int .u8 x261000_2, .int .i64 x261001_2, .int .i64 x261002_2, .int .i64 x261003_2, .int .i64 x261004_2, .int .u8 x261005_2, .int .i64 x261006_2, .int .i64 x261007_2, .bool x261008_2, .bool x261009_2, .int .u8 x261010_2, .int .i64 x261011_2, .int .i64 x261012_2, .int .i64 x261013_2, .int .i64 x261014_2, .int .u8 x261015_2] 27 (0, 0)) (by (with_reducible repeat (first | refine kN ?_ _ | refine kD ?_ | refine kA ?_ _)); exact BK260.out) hb)
     have n1_ := Aside0.mk (below_step (by repeat (first | (with_reducible first | exact HB.out | apply kL | apply kM | apply kE | refine kS ?_ GE260.out) | exact HB.out)) hb)
     clear BK260
     clear HB
     have BK260 := n0_
     have HB := n1_
     clear n0_ n1_
     (try clear hb)
     (try clear hb2)
     (try clear hk)
     (try clear hi)
     refine hK.out _ _ ⟨(kC BK260.out 0).trans rfl, (kC BK260.out 1).trans rfl, (kC BK260.out 2).trans rfl, (kC BK260.out 3).trans rfl, (kC BK260.out 4).trans rfl, (kC BK260.out 5).trans rfl, (kC BK260.out 6).trans rfl, (kC BK260.out 7).trans rfl, (kC BK260.out 8).trans rfl, (kC BK260.out 9).trans rfl, (kC BK260.out 10).trans rfl, (kC BK260.out 11).trans rfl, (kC BK260.out 12).trans rfl, (kC BK260.out 13).trans rfl, (kC BK260.out 14).trans rfl, (kC BK260.out 15).trans rfl⟩ (fun hHeld => ?_)
     clear hK K
     refine norm_ (a' := ?_) ?_ ?_
     rotate_left
     ·show Act.put _ (some 34) _ = _
      simp only [Act.put, List.setIfInBounds_toArray, List.set_cons_zero, List.set_cons_succ, i64_w, i32_w]
      rfl
     refine pure_ (i := 15) (N := some 35) (v := ?_) (a' := ?_) #[T,T,T,T,T,T,T,T,T,T,T,T,T,T,T,T,F,F] rfl rfl (any_of HT_.out (by kernel_rfl)) (fun _ _ _ h => h) (Or.inl ⟨by rfl, ?_⟩) ?_ ?_
     rotate_left
     ·intro w'
      go_simp
      with_reducible rfl
     rotate_left
     ·simp only [Act.put, List.setIfInBounds_toArray, List.set_cons_zero, List.set_cons_succ, i64_w, i32_w]
      rfl
     refine pure_ (i := 16) (N := some 36) (v := ?_) (a' := ?_) #[T,T,T,T,T,T,T,T,T,T,T,T,T,T,T,T,T,F] rfl rfl (any_of HT_.out (by kernel_rfl)) (fun _ _ _ h => h) (Or.inl ⟨by rfl, ?_⟩) ?_ ?_
     rotate_left
     ·intro w'
      go_simp
      with_reducible rfl
     rotate_left
     ·simp only [Act.put, List.setIfInBounds_toArray, List.set_cons_zero, List.set_cons_succ, i64_w, i32_w]
      rfl
     refine pure_ (i := 17) (N := some 4) (v := ?_) (a' := ?_) #[T,T,T,T,T,T,T,T,T,T,T,T,T,T,T,T,T,T] rfl rfl (any_of HT_.out (by kernel_rfl)) (fun _ _ _ h => h) (Or.inl ⟨by rfl, ?_⟩) ?_ ?_
     rotate_left
     ·intro w'
      go_simp
      with_reducible rfl
     rotate_left
     ·simp only [Act.put, List.setIfInBounds_toArray, List.set_cons_zero, List.set_cons_succ, i64_w, i32_w]
      rfl
     refine done_ (done_of HT_.out (by kernel_rfl)) ?_
     try go_wp2
     go_ret
     exact ⟨by first | rfl | (simp [errW_none, errW_some] <;> rfl) | (simp [*, errW_none, errW_some] <;> rfl), by repeat (first | (with_reducible first | exact HB.out | apply kL | apply kM | apply kE | refine kS ?_ GE260.out) | exact HB.out)⟩
    ·rw [if_neg c30] at H
     have c30b0 : (t279 == t280) = false := beq_eq_false_iff_ne.mpr c30
     have c30b1 : (t279 != t280) = true := bne_iff_ne.mpr c30
     exact absurd H (by simp)
   ·replace c27 := Bool.eq_false_iff.mpr c27
    subst c27
    have H1 : (some false) = some true := by rw [if_neg (show ¬ (false = true) by decide)] at H; try exact H
    clear H
    have H := H1
    clear H1
    exact absurd H (by simp)

/-- THE ONE PURE STATEMENT of paybooklaw10_OrderRights: yours. -/
def paybooklaw10_OrderRights.Pure : Prop := ∀ (a0_0 : Int) (a0_1 : Int) (a0_2 : Int) (a0_3 : Int) (a0_4 : Int) (a0_5 : Int) (a0_6 : Int) (a0_7 : Int) (a0_8 : Bool) (a0_9 : Bool) (a0_10 : Int) (a0_11 : Int) (a0_12 : Int) (a0_13 : Int) (a0_14 : Int) (a0_15 : Int) (a1 : Int), (Lit.int .u8 a0_0).wf = true → (Lit.int .i64 a0_1).wf = true → (Lit.int .i64 a0_2).wf = true → (Lit.int .i64 a0_3).wf = true → (Lit.int .i64 a0_4).wf = true → (Lit.int .u8 a0_5).wf = true → (Lit.int .i64 a0_6).wf = true → (Lit.int .i64 a0_7).wf = true → (Lit.int .u8 a0_10).wf = true → (Lit.int .i64 a0_11).wf = true → (Lit.int .i64 a0_12).wf = true → (Lit.int .i64 a0_13).wf = true → (Lit.int .i64 a0_14).wf = true → (Lit.int .u8 a0_15).wf = true → (Lit.int .u8 a1).wf = true → ∃ k, paybooklaw10_OrderRights.f k a0_0 a0_1 a0_2 a0_3 a0_4 a0_5 a0_6 a0_7 a0_8 a0_9 a0_10 a0_11 a0_12 a0_13 a0_14 a0_15 a1 = some true
theorem paybooklaw10_OrderRights.walk (P : paybooklaw10_OrderRights.Pure) (a0_0 : Int) (a0_1 : Int) (a0_2 : Int) (a0_3 : Int) (a0_4 : Int) (a0_5 : Int) (a0_6 : Int) (a0_7 : Int) (a0_8 : Bool) (a0_9 : Bool) (a0_10 : Int) (a0_11 : Int) (a0_12 : Int) (a0_13 : Int) (a0_14 : Int) (a0_15 : Int) (a1 : Int) (w : World) (w0_0 : (Lit.int .u8 a0_0).wf = true) (w0_1 : (Lit.int .i64 a0_1).wf = true) (w0_2 : (Lit.int .i64 a0_2).wf = true) (w0_3 : (Lit.int .i64 a0_3).wf = true) (w0_4 : (Lit.int .i64 a0_4).wf = true) (w0_5 : (Lit.int .u8 a0_5).wf = true) (w0_6 : (Lit.int .i64 a0_6).wf = true) (w0_7 : (Lit.int .i64 a0_7).wf = true) (w0_10 : (Lit.int .u8 a0_10).wf = true) (w0_11 : (Lit.int .i64 a0_11).wf = true) (w0_12 : (Lit.int .i64 a0_12).wf = true) (w0_13 : (Lit.int .i64 a0_13).wf = true) (w0_14 : (Lit.int .i64 a0_14).wf = true) (w0_15 : (Lit.int .u8 a0_15).wf = true) (w1 : (Lit.int .u8 a1).wf = true) :
  Calls Try.prog 3 #[.agg #[.int .u8 a0_0, .int .i64 a0_1, .int .i64 a0_2, .int .i64 a0_3, .int .i64 a0_4, .int .u8 a0_5, .int .i64 a0_6, .int .i64 a0_7, .bool a0_8, .bool a0_9, .int .u8 a0_10, .int .i64 a0_11, .int .i64 a0_12, .int .i64 a0_13, .int .i64 a0_14, .int .u8 a0_15], .int .u8 a1] w fun e w' => e = .returned (.bool true) ∧ Below w.heap.size w w' := by
 obtain ⟨k, h⟩ := P a0_0 a0_1 a0_2 a0_3 a0_4 a0_5 a0_6 a0_7 a0_8 a0_9 a0_10 a0_11 a0_12 a0_13 a0_14 a0_15 a1 w0_0 w0_1 w0_2 w0_3 w0_4 w0_5 w0_6 w0_7 w0_10 w0_11 w0_12 w0_13 w0_14 w0_15 w1
 refine (paybooklaw10_OrderRights.calls k a0_0 a0_1 a0_2 a0_3 a0_4 a0_5 a0_6 a0_7 a0_8 a0_9 a0_10 a0_11 a0_12 a0_13 a0_14 a0_15 a1 w h).mono ?_
 rintro e w' ⟨rfl, hd⟩
 exact ⟨rfl, hd⟩

end Go.Proofs.Ytlihgjonmliodaa.PA
