-- printed by this workplace: wip/patchprint.py over the kit's print
import Derived.Test.YtlihgjonmliodaaPAx0
import Derived.Test.YtlihgjonmliodaaPAx2
import Derived.Test.YtlihgjonmliodaaPAx4
import Derived.Test.YtlihgjonmliodaaPAx15
import Derived.Test.YtlihgjonmliodaaPAx16
namespace Go.Proofs.Ytlihgjonmliodaa.PA
open Go.RowKit Go.Proofs.YtlihgjonmliodaaW.PrintWords Go.Proofs.YtlihgjonmliodaaW.PrintLast Go.Proofs.YtlihgjonmliodaaW.PrintMore
attribute [local go_sem] max2_int min2_int max_two min_two max_three min_three max_four min_four   -- for this text's walks alone
set_option linter.unusedVariables false
set_option linter.unusedSimpArgs false

attribute [local go_sem high] eqA27
/-! ### paybooklaw10_OrderApart: function 4 -/
def paybooklaw10_OrderApart.f (k : Nat) (a0_0 : Int) (a0_1 : Int) (a0_2 : Int) (a0_3 : Int) (a0_4 : Int) (a0_5 : Int) (a0_6 : Int) (a0_7 : Int) (a0_8 : Bool) (a0_9 : Bool) (a0_10 : Int) (a0_11 : Int) (a0_12 : Int) (a0_13 : Int) (a0_14 : Int) (a0_15 : Int) (a1_0 : Int) (a1_1 : Int) (a1_2 : Int) (a1_3 : Int) (a1_4 : Int) (a1_5 : Int) (a1_6 : Int) (a1_7 : Int) (a1_8 : Bool) (a1_9 : Bool) (a1_10 : Int) (a1_11 : Int) (a1_12 : Int) (a1_13 : Int) (a1_14 : Int) (a1_15 : Int) (a2 : Bool) : Option (Bool) := (paybooklaw10_near.f k a0_0 a0_1 a0_2 a0_3 a0_4 a0_5 a0_6 a0_7 a0_8 a0_9 a0_10 a0_11 a0_12 a0_13 a0_14 a0_15).bind fun bt307 => ((paybooklaw10_near.f k a1_0 a1_1 a1_2 a1_3 a1_4 a1_5 a1_6 a1_7 a1_8 a1_9 a1_10 a1_11 a1_12 a1_13 a1_14 a1_15).bind fun bt324 => (if a2 = true then ((paybooklaw10_awake.f k).bind fun t341 => (if t341 = true then ((order_Encode.f k bt307.1 bt307.2.1 bt307.2.2.1 bt307.2.2.2.1 bt307.2.2.2.2.1 bt307.2.2.2.2.2.1 bt307.2.2.2.2.2.2.1 bt307.2.2.2.2.2.2.2.1 bt307.2.2.2.2.2.2.2.2.1 bt307.2.2.2.2.2.2.2.2.2.1 bt307.2.2.2.2.2.2.2.2.2.2.1 bt307.2.2.2.2.2.2.2.2.2.2.2.1 bt307.2.2.2.2.2.2.2.2.2.2.2.2.1 bt307.2.2.2.2.2.2.2.2.2.2.2.2.2.1 bt307.2.2.2.2.2.2.2.2.2.2.2.2.2.2.1 bt307.2.2.2.2.2.2.2.2.2.2.2.2.2.2.2).bind fun t342 => ((order_Encode.f k bt307.1 bt307.2.1 bt307.2.2.1 bt307.2.2.2.1 bt307.2.2.2.2.1 bt307.2.2.2.2.2.1 bt307.2.2.2.2.2.2.1 bt307.2.2.2.2.2.2.2.1 bt307.2.2.2.2.2.2.2.2.1 bt307.2.2.2.2.2.2.2.2.2.1 bt307.2.2.2.2.2.2.2.2.2.2.1 bt307.2.2.2.2.2.2.2.2.2.2.2.1 bt307.2.2.2.2.2.2.2.2.2.2.2.2.1 bt307.2.2.2.2.2.2.2.2.2.2.2.2.2.1 bt307.2.2.2.2.2.2.2.2.2.2.2.2.2.2.1 bt307.2.2.2.2.2.2.2.2.2.2.2.2.2.2.2).bind fun t345 => (some (((strOfNums t342).toList == (strOfNums t345).toList) == true)))) else (some false))) else ((paybooklaw10_awake.f k).bind fun t348 => (if t348 = true then ((order_Encode.f k bt307.1 bt307.2.1 bt307.2.2.1 bt307.2.2.2.1 bt307.2.2.2.2.1 bt307.2.2.2.2.2.1 bt307.2.2.2.2.2.2.1 bt307.2.2.2.2.2.2.2.1 bt307.2.2.2.2.2.2.2.2.1 bt307.2.2.2.2.2.2.2.2.2.1 bt307.2.2.2.2.2.2.2.2.2.2.1 bt307.2.2.2.2.2.2.2.2.2.2.2.1 bt307.2.2.2.2.2.2.2.2.2.2.2.2.1 bt307.2.2.2.2.2.2.2.2.2.2.2.2.2.1 bt307.2.2.2.2.2.2.2.2.2.2.2.2.2.2.1 bt307.2.2.2.2.2.2.2.2.2.2.2.2.2.2.2).bind fun t349 => ((order_Encode.f k bt324.1 bt324.2.1 bt324.2.2.1 bt324.2.2.2.1 bt324.2.2.2.2.1 bt324.2.2.2.2.2.1 bt324.2.2.2.2.2.2.1 bt324.2.2.2.2.2.2.2.1 bt324.2.2.2.2.2.2.2.2.1 bt324.2.2.2.2.2.2.2.2.2.1 bt324.2.2.2.2.2.2.2.2.2.2.1 bt324.2.2.2.2.2.2.2.2.2.2.2.1 bt324.2.2.2.2.2.2.2.2.2.2.2.2.1 bt324.2.2.2.2.2.2.2.2.2.2.2.2.2.1 bt324.2.2.2.2.2.2.2.2.2.2.2.2.2.2.1 bt324.2.2.2.2.2.2.2.2.2.2.2.2.2.2.2).bind fun t352 => (some (((strOfNums t349).toList == (strOfNums t352).toList) == (bt307.1 == bt324.1 && (bt307.2.1 == bt324.2.1 && (bt307.2.2.1 == bt324.2.2.1 && (bt307.2.2.2.1 == bt324.2.2.2.1 && ((bt307.2.2.2.2.1 == bt324.2.2.2.2.1 && (bt307.2.2.2.2.2.1 == bt324.2.2.2.2.2.1 && (bt307.2.2.2.2.2.2.1 == bt324.2.2.2.2.2.2.1 && (bt307.2.2.2.2.2.2.2.1 == bt324.2.2.2.2.2.2.2.1 && (bt307.2.2.2.2.2.2.2.2.1 == bt324.2.2.2.2.2.2.2.2.1 && (bt307.2.2.2.2.2.2.2.2.2.1 == bt324.2.2.2.2.2.2.2.2.2.1)))))) && ((bt307.2.2.2.2.2.2.2.2.2.2.1 == bt324.2.2.2.2.2.2.2.2.2.2.1 && (bt307.2.2.2.2.2.2.2.2.2.2.2.1 == bt324.2.2.2.2.2.2.2.2.2.2.2.1 && (bt307.2.2.2.2.2.2.2.2.2.2.2.2.1 == bt324.2.2.2.2.2.2.2.2.2.2.2.2.1 && (bt307.2.2.2.2.2.2.2.2.2.2.2.2.2.1 == bt324.2.2.2.2.2.2.2.2.2.2.2.2.2.1 && (bt307.2.2.2.2.2.2.2.2.2.2.2.2.2.2.1 == bt324.2.2.2.2.2.2.2.2.2.2.2.2.2.2.1 && (bt307.2.2.2.2.2.2.2.2.2.2.2.2.2.2.2 == bt324.2.2.2.2.2.2.2.2.2.2.2.2.2.2.2)))))))))))))))) else (some false)))))
theorem paybooklaw10_OrderApart.mono : ∀ a0 a1 a2 a3 a4 a5 a6 a7 a8 a9 a10 a11 a12 a13 a14 a15 a16 a17 a18 a19 a20 a21 a22 a23 a24 a25 a26 a27 a28 a29 a30 a31 a32 k, LeO (paybooklaw10_OrderApart.f k a0 a1 a2 a3 a4 a5 a6 a7 a8 a9 a10 a11 a12 a13 a14 a15 a16 a17 a18 a19 a20 a21 a22 a23 a24 a25 a26 a27 a28 a29 a30 a31 a32) (paybooklaw10_OrderApart.f (k + 1) a0 a1 a2 a3 a4 a5 a6 a7 a8 a9 a10 a11 a12 a13 a14 a15 a16 a17 a18 a19 a20 a21 a22 a23 a24 a25 a26 a27 a28 a29 a30 a31 a32) := by
 intro a0 a1 a2 a3 a4 a5 a6 a7 a8 a9 a10 a11 a12 a13 a14 a15 a16 a17 a18 a19 a20 a21 a22 a23 a24 a25 a26 a27 a28 a29 a30 a31 a32 k
 unfold paybooklaw10_OrderApart.f
 repeat' first
   | (with_reducible exact order_Encode.mono _ _ _ _ _ _ _ _ _ _ _ _ _ _ _ _ _)
   | (with_reducible exact paybooklaw10_awake.mono _)
   | (with_reducible exact paybooklaw10_near.mono _ _ _ _ _ _ _ _ _ _ _ _ _ _ _ _ _)
   | (with_reducible exact LeO.refl _)
   | (with_reducible exact LeO.none _)
   | (with_reducible refine LeO.ite ?_ ?_)
   | (with_reducible refine LeO.bind ?_ (fun _ => ?_))
   | exact order_Encode.mono _ _ _ _ _ _ _ _ _ _ _ _ _ _ _ _ _
   | exact paybooklaw10_awake.mono _
   | exact paybooklaw10_near.mono _ _ _ _ _ _ _ _ _ _ _ _ _ _ _ _ _
   | exact LeO.none _
   | refine LeO.ite ?_ ?_
   | refine LeO.bind ?_ (fun _ => ?_)
def paybooklaw10_OrderApart.T5 : Bool × List (List Nat × List Nat) := (true, [([], []), ([0, 0], [0]), ([1], [1]), ([2, 1, 1], [1, 2]), ([3, 1], [1, 3]), ([1], [1]), ([5, 3, 1], [1, 5]), ([6, 1], [1, 6]), ([4, 7, 1], [1, 4, 7]), ([1], [1]), ([1], [1]), ([9, 10, 1], [1, 9, 10]), ([8, 11, 1], [1, 8, 11]), ([1, 12], [1, 12]), ([13, 6, 0, 1, 2, 3, 4, 5, 6, 7, 8, 9, 10, 11, 12, 13], [13])])
def paybooklaw10_OrderApart.B5 : List Nat := [0, 1, 3, 7, 15, 3, 47, 111, 255, 3, 3, 1539, 4095, 8191, 16383]
theorem paybooklaw10_OrderApart.tab5 : rtab .any (opsOf Try.f4 5) = paybooklaw10_OrderApart.T5 := by kernel_rfl
theorem paybooklaw10_OrderApart.bits5 : waitsOk paybooklaw10_OrderApart.T5.2 paybooklaw10_OrderApart.B5 = true := by kernel_rfl
set_option maxHeartbeats 40000000 in
set_option maxRecDepth 100000 in
theorem paybooklaw10_OrderApart.calls (k : Nat) (a0_0 : Int) (a0_1 : Int) (a0_2 : Int) (a0_3 : Int) (a0_4 : Int) (a0_5 : Int) (a0_6 : Int) (a0_7 : Int) (a0_8 : Bool) (a0_9 : Bool) (a0_10 : Int) (a0_11 : Int) (a0_12 : Int) (a0_13 : Int) (a0_14 : Int) (a0_15 : Int) (a1_0 : Int) (a1_1 : Int) (a1_2 : Int) (a1_3 : Int) (a1_4 : Int) (a1_5 : Int) (a1_6 : Int) (a1_7 : Int) (a1_8 : Bool) (a1_9 : Bool) (a1_10 : Int) (a1_11 : Int) (a1_12 : Int) (a1_13 : Int) (a1_14 : Int) (a1_15 : Int) (a2 : Bool) (w : World) (h : paybooklaw10_OrderApart.f k a0_0 a0_1 a0_2 a0_3 a0_4 a0_5 a0_6 a0_7 a0_8 a0_9 a0_10 a0_11 a0_12 a0_13 a0_14 a0_15 a1_0 a1_1 a1_2 a1_3 a1_4 a1_5 a1_6 a1_7 a1_8 a1_9 a1_10 a1_11 a1_12 a1_13 a1_14 a1_15 a2 = some true) :
  Calls Try.prog 4 #[.agg #[.int .u8 a0_0, .int .i64 a0_1, .int .i64 a0_2, .int .i64 a0_3, .int .i64 a0_4, .int .u8 a0_5, .int .i64 a0_6, .int .i64 a0_7, .bool a0_8, .bool a0_9, .int .u8 a0_10, .int .i64 a0_11, .int .i64 a0_12, .int .i64 a0_13, .int .i64 a0_14, .int .u8 a0_15], .agg #[.int .u8 a1_0, .int .i64 a1_1, .int .i64 a1_2, .int .i64 a1_3, .int .i64 a1_4, .int .u8 a1_5, .int .i64 a1_6, .int .i64 a1_7, .bool a1_8, .bool a1_9, .int .u8 a1_10, .int .i64 a1_11, .int .i64 a1_12, .int .i64 a1_13, .int .i64 a1_14, .int .u8 a1_15], .bool a2] w fun e w' => e = .returned (.bool true) ∧ Below w.heap.size w w' := by
 have hu27 := Try.underlying27
 have HB := Aside0.mk (Below.refl w.heap.size w)
 have H : ((paybooklaw10_near.f k a0_0 a0_1 a0_2 a0_3 a0_4 a0_5 a0_6 a0_7 a0_8 a0_9 a0_10 a0_11 a0_12 a0_13 a0_14 a0_15).bind fun bt307 => ((paybooklaw10_near.f k a1_0 a1_1 a1_2 a1_3 a1_4 a1_5 a1_6 a1_7 a1_8 a1_9 a1_10 a1_11 a1_12 a1_13 a1_14 a1_15).bind fun bt324 => (if a2 = true then ((paybooklaw10_awake.f k).bind fun t341 => (if t341 = true then ((order_Encode.f k bt307.1 bt307.2.1 bt307.2.2.1 bt307.2.2.2.1 bt307.2.2.2.2.1 bt307.2.2.2.2.2.1 bt307.2.2.2.2.2.2.1 bt307.2.2.2.2.2.2.2.1 bt307.2.2.2.2.2.2.2.2.1 bt307.2.2.2.2.2.2.2.2.2.1 bt307.2.2.2.2.2.2.2.2.2.2.1 bt307.2.2.2.2.2.2.2.2.2.2.2.1 bt307.2.2.2.2.2.2.2.2.2.2.2.2.1 bt307.2.2.2.2.2.2.2.2.2.2.2.2.2.1 bt307.2.2.2.2.2.2.2.2.2.2.2.2.2.2.1 bt307.2.2.2.2.2.2.2.2.2.2.2.2.2.2.2).bind fun t342 => ((order_Encode.f k bt307.1 bt307.2.1 bt307.2.2.1 bt307.2.2.2.1 bt307.2.2.2.2.1 bt307.2.2.2.2.2.1 bt307.2.2.2.2.2.2.1 bt307.2.2.2.2.2.2.2.1 bt307.2.2.2.2.2.2.2.2.1 bt307.2.2.2.2.2.2.2.2.2.1 bt307.2.2.2.2.2.2.2.2.2.2.1 bt307.2.2.2.2.2.2.2.2.2.2.2.1 bt307.2.2.2.2.2.2.2.2.2.2.2.2.1 bt307.2.2.2.2.2.2.2.2.2.2.2.2.2.1 bt307.2.2.2.2.2.2.2.2.2.2.2.2.2.2.1 bt307.2.2.2.2.2.2.2.2.2.2.2.2.2.2.2).bind fun t345 => (some (((strOfNums t342).toList == (strOfNums t345).toList) == true)))) else (some false))) else ((paybooklaw10_awake.f k).bind fun t348 => (if t348 = true then ((order_Encode.f k bt307.1 bt307.2.1 bt307.2.2.1 bt307.2.2.2.1 bt307.2.2.2.2.1 bt307.2.2.2.2.2.1 bt307.2.2.2.2.2.2.1 bt307.2.2.2.2.2.2.2.1 bt307.2.2.2.2.2.2.2.2.1 bt307.2.2.2.2.2.2.2.2.2.1 bt307.2.2.2.2.2.2.2.2.2.2.1 bt307.2.2.2.2.2.2.2.2.2.2.2.1 bt307.2.2.2.2.2.2.2.2.2.2.2.2.1 bt307.2.2.2.2.2.2.2.2.2.2.2.2.2.1 bt307.2.2.2.2.2.2.2.2.2.2.2.2.2.2.1 bt307.2.2.2.2.2.2.2.2.2.2.2.2.2.2.2).bind fun t349 => ((order_Encode.f k bt324.1 bt324.2.1 bt324.2.2.1 bt324.2.2.2.1 bt324.2.2.2.2.1 bt324.2.2.2.2.2.1 bt324.2.2.2.2.2.2.1 bt324.2.2.2.2.2.2.2.1 bt324.2.2.2.2.2.2.2.2.1 bt324.2.2.2.2.2.2.2.2.2.1 bt324.2.2.2.2.2.2.2.2.2.2.1 bt324.2.2.2.2.2.2.2.2.2.2.2.1 bt324.2.2.2.2.2.2.2.2.2.2.2.2.1 bt324.2.2.2.2.2.2.2.2.2.2.2.2.2.1 bt324.2.2.2.2.2.2.2.2.2.2.2.2.2.2.1 bt324.2.2.2.2.2.2.2.2.2.2.2.2.2.2.2).bind fun t352 => (some (((strOfNums t349).toList == (strOfNums t352).toList) == (bt307.1 == bt324.1 && (bt307.2.1 == bt324.2.1 && (bt307.2.2.1 == bt324.2.2.1 && (bt307.2.2.2.1 == bt324.2.2.2.1 && ((bt307.2.2.2.2.1 == bt324.2.2.2.2.1 && (bt307.2.2.2.2.2.1 == bt324.2.2.2.2.2.1 && (bt307.2.2.2.2.2.2.1 == bt324.2.2.2.2.2.2.1 && (bt307.2.2.2.2.2.2.2.1 == bt324.2.2.2.2.2.2.2.1 && (bt307.2.2.2.2.2.2.2.2.1 == bt324.2.2.2.2.2.2.2.2.1 && (bt307.2.2.2.2.2.2.2.2.2.1 == bt324.2.2.2.2.2.2.2.2.2.1)))))) && ((bt307.2.2.2.2.2.2.2.2.2.2.1 == bt324.2.2.2.2.2.2.2.2.2.2.1 && (bt307.2.2.2.2.2.2.2.2.2.2.2.1 == bt324.2.2.2.2.2.2.2.2.2.2.2.1 && (bt307.2.2.2.2.2.2.2.2.2.2.2.2.1 == bt324.2.2.2.2.2.2.2.2.2.2.2.2.1 && (bt307.2.2.2.2.2.2.2.2.2.2.2.2.2.1 == bt324.2.2.2.2.2.2.2.2.2.2.2.2.2.1 && (bt307.2.2.2.2.2.2.2.2.2.2.2.2.2.2.1 == bt324.2.2.2.2.2.2.2.2.2.2.2.2.2.2.1 && (bt307.2.2.2.2.2.2.2.2.2.2.2.2.2.2.2 == bt324.2.2.2.2.2.2.2.2.2.2.2.2.2.2.2)))))))))))))))) else (some false)))))) = some true := h
 clear h
 replace H := Option.bind_eq_some_iff.mp H
 obtain ⟨⟨t307, t308, t309, t310, t311, t312, t313, t314, t315, t316, t317, t318, t319, t320, t321, t322⟩, A40, H⟩ := H
 replace H : ((paybooklaw10_near.f k a1_0 a1_1 a1_2 a1_3 a1_4 a1_5 a1_6 a1_7 a1_8 a1_9 a1_10 a1_11 a1_12 a1_13 a1_14 a1_15).bind fun bt324 => (if a2 = true then ((paybooklaw10_awake.f k).bind fun t341 => (if t341 = true then ((order_Encode.f k t307 t308 t309 t310 t311 t312 t313 t314 t315 t316 t317 t318 t319 t320 t321 t322).bind fun t342 => ((order_Encode.f k t307 t308 t309 t310 t311 t312 t313 t314 t315 t316 t317 t318 t319 t320 t321 t322).bind fun t345 => (some (((strOfNums t342).toList == (strOfNums t345).toList) == true)))) else (some false))) else ((paybooklaw10_awake.f k).bind fun t348 => (if t348 = true then ((order_Encode.f k t307 t308 t309 t310 t311 t312 t313 t314 t315 t316 t317 t318 t319 t320 t321 t322).bind fun t349 => ((order_Encode.f k bt324.1 bt324.2.1 bt324.2.2.1 bt324.2.2.2.1 bt324.2.2.2.2.1 bt324.2.2.2.2.2.1 bt324.2.2.2.2.2.2.1 bt324.2.2.2.2.2.2.2.1 bt324.2.2.2.2.2.2.2.2.1 bt324.2.2.2.2.2.2.2.2.2.1 bt324.2.2.2.2.2.2.2.2.2.2.1 bt324.2.2.2.2.2.2.2.2.2.2.2.1 bt324.2.2.2.2.2.2.2.2.2.2.2.2.1 bt324.2.2.2.2.2.2.2.2.2.2.2.2.2.1 bt324.2.2.2.2.2.2.2.2.2.2.2.2.2.2.1 bt324.2.2.2.2.2.2.2.2.2.2.2.2.2.2.2).bind fun t352 => (some (((strOfNums t349).toList == (strOfNums t352).toList) == (t307 == bt324.1 && (t308 == bt324.2.1 && (t309 == bt324.2.2.1 && (t310 == bt324.2.2.2.1 && ((t311 == bt324.2.2.2.2.1 && (t312 == bt324.2.2.2.2.2.1 && (t313 == bt324.2.2.2.2.2.2.1 && (t314 == bt324.2.2.2.2.2.2.2.1 && (t315 == bt324.2.2.2.2.2.2.2.2.1 && (t316 == bt324.2.2.2.2.2.2.2.2.2.1)))))) && ((t317 == bt324.2.2.2.2.2.2.2.2.2.2.1 && (t318 == bt324.2.2.2.2.2.2.2.2.2.2.2.1 && (t319 == bt324.2.2.2.2.2.2.2.2.2.2.2.2.1 && (t320 == bt324.2.2.2.2.2.2.2.2.2.2.2.2.2.1 && (t321 == bt324.2.2.2.2.2.2.2.2.2.2.2.2.2.2.1 && (t322 == bt324.2.2.2.2.2.2.2.2.2.2.2.2.2.2.2)))))))))))))))) else (some false))))) = some true := H
 have A4 := Aside0.mk A40
 clear A40
 replace H := Option.bind_eq_some_iff.mp H
 obtain ⟨⟨t324, t325, t326, t327, t328, t329, t330, t331, t332, t333, t334, t335, t336, t337, t338, t339⟩, A50, H⟩ := H
 replace H : (if a2 = true then ((paybooklaw10_awake.f k).bind fun t341 => (if t341 = true then ((order_Encode.f k t307 t308 t309 t310 t311 t312 t313 t314 t315 t316 t317 t318 t319 t320 t321 t322).bind fun t342 => ((order_Encode.f k t307 t308 t309 t310 t311 t312 t313 t314 t315 t316 t317 t318 t319 t320 t321 t322).bind fun t345 => (some (((strOfNums t342).toList == (strOfNums t345).toList) == true)))) else (some false))) else ((paybooklaw10_awake.f k).bind fun t348 => (if t348 = true then ((order_Encode.f k t307 t308 t309 t310 t311 t312 t313 t314 t315 t316 t317 t318 t319 t320 t321 t322).bind fun t349 => ((order_Encode.f k t324 t325 t326 t327 t328 t329 t330 t331 t332 t333 t334 t335 t336 t337 t338 t339).bind fun t352 => (some (((strOfNums t349).toList == (strOfNums t352).toList) == (t307 == t324 && (t308 == t325 && (t309 == t326 && (t310 == t327 && ((t311 == t328 && (t312 == t329 && (t313 == t330 && (t314 == t331 && (t315 == t332 && (t316 == t333)))))) && ((t317 == t334 && (t318 == t335 && (t319 == t336 && (t320 == t337 && (t321 == t338 && (t322 == t339)))))))))))))))) else (some false)))) = some true := H
 have A5 := Aside0.mk A50
 clear A50
 by_cases c6 : a2 = true
 ·subst c6
  have H1 : ((paybooklaw10_awake.f k).bind fun t341 => (if t341 = true then ((order_Encode.f k t307 t308 t309 t310 t311 t312 t313 t314 t315 t316 t317 t318 t319 t320 t321 t322).bind fun t342 => ((order_Encode.f k t307 t308 t309 t310 t311 t312 t313 t314 t315 t316 t317 t318 t319 t320 t321 t322).bind fun t345 => (some (((strOfNums t342).toList == (strOfNums t345).toList) == true)))) else (some false))) = some true := by rw [if_pos rfl] at H; try exact H
  clear H
  have H := H1
  clear H1
  replace H := Option.bind_eq_some_iff.mp H
  obtain ⟨t341, A70, H⟩ := H
  replace H : (if t341 = true then ((order_Encode.f k t307 t308 t309 t310 t311 t312 t313 t314 t315 t316 t317 t318 t319 t320 t321 t322).bind fun t342 => ((order_Encode.f k t307 t308 t309 t310 t311 t312 t313 t314 t315 t316 t317 t318 t319 t320 t321 t322).bind fun t345 => (some (((strOfNums t342).toList == (strOfNums t345).toList) == true)))) else (some false)) = some true := H
  have A7 := Aside0.mk A70
  clear A70
  by_cases c8 : t341 = true
  ·subst c8
   have H1 : ((order_Encode.f k t307 t308 t309 t310 t311 t312 t313 t314 t315 t316 t317 t318 t319 t320 t321 t322).bind fun t342 => ((order_Encode.f k t307 t308 t309 t310 t311 t312 t313 t314 t315 t316 t317 t318 t319 t320 t321 t322).bind fun t345 => (some (((strOfNums t342).toList == (strOfNums t345).toList) == true)))) = some true := by rw [if_pos rfl] at H; try exact H
   clear H
   have H := H1
   clear H1
   replace H := Option.bind_eq_some_iff.mp H
   obtain ⟨t342, A90, H⟩ := H
   replace H : ((order_Encode.f k t307 t308 t309 t310 t311 t312 t313 t314 t315 t316 t317 t318 t319 t320 t321 t322).bind fun t345 => (some (((strOfNums t342).toList == (strOfNums t345).toList) == true))) = some true := H
   have A9 := Aside0.mk A90
   clear A90
   replace H := Option.bind_eq_some_iff.mp H
   obtain ⟨t345, A100, H⟩ := H
   replace H : (some (((strOfNums t342).toList == (strOfNums t345).toList) == true)) = some true := H
   have A10 := Aside0.mk A100
   clear A100
   have HT_ := Option.some.inj H
   clear H
   (try (have HT_z_ := HT_; simp only [beq_true, beq_false, true_beq, false_beq, Bool.not_eq_true', Bool.not_eq_false', Bool.not_true, Bool.not_false] at HT_z_))
   as_aux_lemma =>
    go_enter Try.func4, Try.ntmps4
    try go_wp2_with (first | ((with_reducible refine gate_dst (N := 3) rfl ?_); refine box_event ?hg (N := 3) ?hd (cs := #[.int .u8 a0_0, .int .i64 a0_1, .int .i64 a0_2, .int .i64 a0_3, .int .i64 a0_4, .int .u8 a0_5, .int .i64 a0_6, .int .i64 a0_7, .bool a0_8, .bool a0_9, .int .u8 a0_10, .int .i64 a0_11, .int .i64 a0_12, .int .i64 a0_13, .int .i64 a0_14, .int .u8 a0_15]) (t := 27) ?hr ?_; (case hd => rfl); (case hg => rfl); (case hr => first | (go_simp; done) | (go_simp; rfl)); intro gb305 hg w11 hbox hb; have n0_ := Aside0.mk (below_step (by repeat (first | (with_reducible first | exact HB.out | apply kL | apply kM | apply kE) | exact HB.out)) hb); have n1_ := Aside0.mk (hbox); have n2_ := Aside0.mk ((by rw [hg]; exact (below_size (by repeat (first | (with_reducible first | exact HB.out | apply kL | apply kM | apply kE) | exact HB.out))) : w.heap.size ≤ gb305)); have n3_ := Aside0.mk ((by rw [hg]; exact (below_size (by repeat (first | (with_reducible first | exact HB.out | apply kL | apply kM | apply kE) | exact HB.out))) : w.heap.size ≤ gb305)); clear HB; have HB := n0_; have BK305 := n1_; have GW305 := n2_; have GE305 := n3_; clear n0_ n1_ n2_ n3_; clear hb hbox hg) | ((with_reducible refine gate_dst (N := 4) rfl ?_); refine box_event ?hg (N := 4) ?hd (cs := #[.int .u8 a1_0, .int .i64 a1_1, .int .i64 a1_2, .int .i64 a1_3, .int .i64 a1_4, .int .u8 a1_5, .int .i64 a1_6, .int .i64 a1_7, .bool a1_8, .bool a1_9, .int .u8 a1_10, .int .i64 a1_11, .int .i64 a1_12, .int .i64 a1_13, .int .i64 a1_14, .int .u8 a1_15]) (t := 27) ?hr ?_; (case hd => rfl); (case hg => rfl); (case hr => first | (go_simp; done) | (go_simp; rfl)); intro gb306 hg w12 hbox hb; have n0_ := Aside0.mk (blk_below (g := gb305) (o := .cells #[.int .u8 a0_0, .int .i64 a0_1, .int .i64 a0_2, .int .i64 a0_3, .int .i64 a0_4, .int .u8 a0_5, .int .i64 a0_6, .int .i64 a0_7, .bool a0_8, .bool a0_9, .int .u8 a0_10, .int .i64 a0_11, .int .i64 a0_12, .int .i64 a0_13, .int .i64 a0_14, .int .u8 a0_15] 27 (0, 0)) (by (with_reducible repeat (first | refine kN ?_ _ | refine kD ?_ | refine kA ?_ _)); exact BK305.out) hb); have n1_ := Aside0.mk (below_step (by repeat (first | (with_reducible first | exact HB.out | apply kL | apply kM | apply kE | refine kS ?_ GE305.out) | exact HB.out)) hb); have n2_ := Aside0.mk (hbox); have n3_ := Aside0.mk ((by rw [hg]; exact (below_size (by repeat (first | (with_reducible first | exact HB.out | apply kL | apply kM | apply kE | refine kS ?_ GE305.out) | exact HB.out))) : w.heap.size ≤ gb306)); have n4_ := Aside0.mk ((by rw [hg]; exact (below_size (by repeat (first | (with_reducible first | exact HB.out | apply kL | apply kM | apply kE | refine kS ?_ GE305.out) | exact HB.out))) : w.heap.size ≤ gb306)); have n5_ := Aside0.mk ((by rw [hg]; exact Nat.ne_of_lt (blk_lt (g := gb305) (o := .cells #[.int .u8 a0_0, .int .i64 a0_1, .int .i64 a0_2, .int .i64 a0_3, .int .i64 a0_4, .int .u8 a0_5, .int .i64 a0_6, .int .i64 a0_7, .bool a0_8, .bool a0_9, .int .u8 a0_10, .int .i64 a0_11, .int .i64 a0_12, .int .i64 a0_13, .int .i64 a0_14, .int .u8 a0_15] 27 (0, 0)) (by (with_reducible repeat (first | refine kN ?_ _ | refine kD ?_ | refine kA ?_ _)); exact BK305.out)) : gb305 ≠ gb306)); have n6_ := Aside0.mk ((by rw [hg]; exact Nat.ne_of_gt (blk_lt (g := gb305) (o := .cells #[.int .u8 a0_0, .int .i64 a0_1, .int .i64 a0_2, .int .i64 a0_3, .int .i64 a0_4, .int .u8 a0_5, .int .i64 a0_6, .int .i64 a0_7, .bool a0_8, .bool a0_9, .int .u8 a0_10, .int .i64 a0_11, .int .i64 a0_12, .int .i64 a0_13, .int .i64 a0_14, .int .u8 a0_15] 27 (0, 0)) (by (with_reducible repeat (first | refine kN ?_ _ | refine kD ?_ | refine kA ?_ _)); exact BK305.out)) : gb306 ≠ gb305)); clear BK305; clear HB; have BK305 := n0_; have HB := n1_; have BK306 := n2_; have GW306 := n3_; have GE306 := n4_; have NB305_306 := n5_; have NB306_305 := n6_; clear n0_ n1_ n2_ n3_ n4_ n5_ n6_; clear hb hbox hg; have hnb13 := NB305_306.out; have hnc13 := NB306_305.out; obtain ⟨hcz14_0, hcz14_1, hcz14_2, hcz14_3, hcz14_4, hcz14_5, hcz14_6, hcz14_7, hcz14_8, hcz14_9, hcz14_10, hcz14_11, hcz14_12, hcz14_13, hcz14_14, hcz14_15, hfz14_0, hfz14_1, hfz14_2, hfz14_3, hfz14_4, hfz14_5, hfz14_6, hfz14_7, hfz14_8, hfz14_9, hfz14_10, hfz14_11, hfz14_12, hfz14_13, hfz14_14, hfz14_15⟩ := bxc16 BK305.out) | ((with_reducible refine gate_dst (N := 9) rfl ?_); refine wpList_load_row rfl 27 (.tmp 3) rfl gb305 rfl 27 #[.int .u8 a0_0, .int .i64 a0_1, .int .i64 a0_2, .int .i64 a0_3, .int .i64 a0_4, .int .u8 a0_5, .int .i64 a0_6, .int .i64 a0_7, .bool a0_8, .bool a0_9, .int .u8 a0_10, .int .i64 a0_11, .int .i64 a0_12, .int .i64 a0_13, .int .i64 a0_14, .int .u8 a0_15] (0, 0) _ (by (with_reducible repeat (first | refine kN ?_ _ | refine kD ?_ | refine kA ?_ _)); exact BK305.out) Try.underlying27 rfl (by kernel_rfl) ?_) | ((with_reducible refine gate_callee (f := 9) rfl ?_); refine goesL_ (some 10) rfl rfl Try.func9 (by kernel_rfl) rfl #[.agg #[.int .u8 a0_0, .int .i64 a0_1, .int .i64 a0_2, .int .i64 a0_3, .int .i64 a0_4, .int .u8 a0_5, .int .i64 a0_6, .int .i64 a0_7, .bool a0_8, .bool a0_9, .int .u8 a0_10, .int .i64 a0_11, .int .i64 a0_12, .int .i64 a0_13, .int .i64 a0_14, .int .u8 a0_15]] rfl (by (try simp only [List.map_toArray, List.map_cons, List.map_nil]); first | done | rfl | (simp only [List.length_drop, List.length_take]; rfl)) ?_; (with_reducible refine (paybooklaw10_near.calls k a0_0 a0_1 a0_2 a0_3 a0_4 a0_5 a0_6 a0_7 a0_8 a0_9 a0_10 a0_11 a0_12 a0_13 a0_14 a0_15 t307 t308 t309 t310 t311 t312 t313 t314 t315 t316 t317 t318 t319 t320 t321 t322 _ A4.out).mono ?_); rintro e w15 ⟨rfl, hb⟩; refine ⟨_, rfl, ?_⟩; have n0_ := Aside0.mk (blk_below (g := gb305) (o := .cells #[.int .u8 a0_0, .int .i64 a0_1, .int .i64 a0_2, .int .i64 a0_3, .int .i64 a0_4, .int .u8 a0_5, .int .i64 a0_6, .int .i64 a0_7, .bool a0_8, .bool a0_9, .int .u8 a0_10, .int .i64 a0_11, .int .i64 a0_12, .int .i64 a0_13, .int .i64 a0_14, .int .u8 a0_15] 27 (0, 0)) (by (with_reducible repeat (first | refine kN ?_ _ | refine kD ?_ | refine kA ?_ _)); exact BK305.out) hb); have n1_ := Aside0.mk (blk_below (g := gb306) (o := .cells #[.int .u8 a1_0, .int .i64 a1_1, .int .i64 a1_2, .int .i64 a1_3, .int .i64 a1_4, .int .u8 a1_5, .int .i64 a1_6, .int .i64 a1_7, .bool a1_8, .bool a1_9, .int .u8 a1_10, .int .i64 a1_11, .int .i64 a1_12, .int .i64 a1_13, .int .i64 a1_14, .int .u8 a1_15] 27 (0, 0)) (by (with_reducible repeat (first | refine kN ?_ _ | refine kD ?_ | refine kA ?_ _)); exact BK306.out) hb); have n2_ := Aside0.mk (below_step (by repeat (first | (with_reducible first | exact HB.out | apply kL | apply kM | apply kE | refine kS ?_ GE305.out | refine kS ?_ GE306.out) | exact HB.out)) hb); clear BK305; clear BK306; clear HB; have BK305 := n0_; have BK306 := n1_; have HB := n2_; clear n0_ n1_ n2_; (try clear hb); (try clear hb2); (try clear hk); (try clear hi)) | ((with_reducible refine gate_dst (N := 7) rfl ?_); refine box_event ?hg (N := 7) ?hd (cs := #[.int .u8 0, .int .i64 0, .int .i64 0, .int .i64 0, .int .i64 0, .int .u8 0, .int .i64 0, .int .i64 0, .bool false, .bool false, .int .u8 0, .int .i64 0, .int .i64 0, .int .i64 0, .int .i64 0, .int .u8 0]) (t := 27) ?hr ?_; (case hd => rfl); (case hg => rfl); (case hr => first | (go_simp; done) | (go_simp; rfl)); intro gb323 hg w16 hbox hb; have n0_ := Aside0.mk (blk_below (g := gb305) (o := .cells #[.int .u8 a0_0, .int .i64 a0_1, .int .i64 a0_2, .int .i64 a0_3, .int .i64 a0_4, .int .u8 a0_5, .int .i64 a0_6, .int .i64 a0_7, .bool a0_8, .bool a0_9, .int .u8 a0_10, .int .i64 a0_11, .int .i64 a0_12, .int .i64 a0_13, .int .i64 a0_14, .int .u8 a0_15] 27 (0, 0)) (by (with_reducible repeat (first | refine kN ?_ _ | refine kD ?_ | refine kA ?_ _)); exact BK305.out) hb); have n1_ := Aside0.mk (blk_below (g := gb306) (o := .cells #[.int .u8 a1_0, .int .i64 a1_1, .int .i64 a1_2, .int .i64 a1_3, .int .i64 a1_4, .int .u8 a1_5, .int .i64 a1_6, .int .i64 a1_7, .bool a1_8, .bool a1_9, .int .u8 a1_10, .int .i64 a1_11, .int .i64 a1_12, .int .i64 a1_13, .int .i64 a1_14, .int .u8 a1_15] 27 (0, 0)) (by (with_reducible repeat (first | refine kN ?_ _ | refine kD ?_ | refine kA ?_ _)); exact BK306.out) hb); have n2_ := Aside0.mk (below_step (by repeat (first | (with_reducible first | exact HB.out | apply kL | apply kM | apply kE | refine kS ?_ GE305.out | refine kS ?_ GE306.out) | exact HB.out)) hb); have n3_ := Aside0.mk (hbox); have n4_ := Aside0.mk ((by rw [hg]; exact (below_size (by repeat (first | (with_reducible first | exact HB.out | apply kL | apply kM | apply kE | refine kS ?_ GE305.out | refine kS ?_ GE306.out) | exact HB.out))) : w.heap.size ≤ gb323)); have n5_ := Aside0.mk ((by rw [hg]; exact (below_size (by repeat (first | (with_reducible first | exact HB.out | apply kL | apply kM | apply kE | refine kS ?_ GE305.out | refine kS ?_ GE306.out) | exact HB.out))) : w.heap.size ≤ gb323)); have n6_ := Aside0.mk ((by rw [hg]; exact Nat.ne_of_lt (blk_lt (g := gb305) (o := .cells #[.int .u8 a0_0, .int .i64 a0_1, .int .i64 a0_2, .int .i64 a0_3, .int .i64 a0_4, .int .u8 a0_5, .int .i64 a0_6, .int .i64 a0_7, .bool a0_8, .bool a0_9, .int .u8 a0_10, .int .i64 a0_11, .int .i64 a0_12, .int .i64 a0_13, .int .i64 a0_14, .int .u8 a0_15] 27 (0, 0)) (by (with_reducible repeat (first | refine kN ?_ _ | refine kD ?_ | refine kA ?_ _)); exact BK305.out)) : gb305 ≠ gb323)); have n7_ := Aside0.mk ((by rw [hg]; exact Nat.ne_of_gt (blk_lt (g := gb305) (o := .cells #[.int .u8 a0_0, .int .i64 a0_1, .int .i64 a0_2, .int .i64 a0_3, .int .i64 a0_4, .int .u8 a0_5, .int .i64 a0_6, .int .i64 a0_7, .bool a0_8, .bool a0_9, .int .u8 a0_10, .int .i64 a0_11, .int .i64 a0_12, .int .i64 a0_13, .int .i64 a0_14, .int .u8 a0_15] 27 (0, 0)) (by (with_reducible repeat (first | refine kN ?_ _ | refine kD ?_ | refine kA ?_ _)); exact BK305.out)) : gb323 ≠ gb305)); have n8_ := Aside0.mk ((by rw [hg]; exact Nat.ne_of_lt (blk_lt (g := gb306) (o := .cells #[.int .u8 a1_0, .int .i64 a1_1, .int .i64 a1_2, .int .i64 a1_3, .int .i64 a1_4, .int .u8 a1_5, .int .i64 a1_6, .int .i64 a1_7, .bool a1_8, .bool a1_9, .int .u8 a1_10, .int .i64 a1_11, .int .i64 a1_12, .int .i64 a1_13, .int .i64 a1_14, .int .u8 a1_15] 27 (0, 0)) (by (with_reducible repeat (first | refine kN ?_ _ | refine kD ?_ | refine kA ?_ _)); exact BK306.out)) : gb306 ≠ gb323)); have n9_ := Aside0.mk ((by rw [hg]; exact Nat.ne_of_gt (blk_lt (g := gb306) (o := .cells #[.int .u8 a1_0, .int .i64 a1_1, .int .i64 a1_2, .int .i64 a1_3, .int .i64 a1_4, .int .u8 a1_5, .int .i64 a1_6, .int .i64 a1_7, .bool a1_8, .bool a1_9, .int .u8 a1_10, .int .i64 a1_11, .int .i64 a1_12, .int .i64 a1_13, .int .i64 a1_14, .int .u8 a1_15] 27 (0, 0)) (by (with_reducible repeat (first | refine kN ?_ _ | refine kD ?_ | refine kA ?_ _)); exact BK306.out)) : gb323 ≠ gb306)); clear BK305; clear BK306; clear HB; have BK305 := n0_; have BK306 := n1_; have HB := n2_; have BK323 := n3_; have GW323 := n4_; have GE323 := n5_; have NB305_323 := n6_; have NB323_305 := n7_; have NB306_323 := n8_; have NB323_306 := n9_; clear n0_ n1_ n2_ n3_ n4_ n5_ n6_ n7_ n8_ n9_; clear hb hbox hg; have hnb17 := NB323_305.out; have hnc17 := NB305_323.out; have hnb18 := NB323_306.out; have hnc18 := NB306_323.out; obtain ⟨hcz19_0, hcz19_1, hcz19_2, hcz19_3, hcz19_4, hcz19_5, hcz19_6, hcz19_7, hcz19_8, hcz19_9, hcz19_10, hcz19_11, hcz19_12, hcz19_13, hcz19_14, hcz19_15, hfz19_0, hfz19_1, hfz19_2, hfz19_3, hfz19_4, hfz19_5, hfz19_6, hfz19_7, hfz19_8, hfz19_9, hfz19_10, hfz19_11, hfz19_12, hfz19_13, hfz19_14, hfz19_15⟩ := bxc16 BK323.out) | ((with_reducible refine gate_store (t := 27) (p := 7) rfl ?_); refine rec_event (t := 27) (p := 7) (v := ?vo_w20) (g := gb323) (t' := 27) #[.int .u8 0, .int .i64 0, .int .i64 0, .int .i64 0, .int .i64 0, .int .u8 0, .int .i64 0, .int .i64 0, .bool false, .bool false, .int .u8 0, .int .i64 0, .int .i64 0, .int .i64 0, .int .i64 0, .int .u8 0] #[.int .u8 t307, .int .i64 t308, .int .i64 t309, .int .i64 t310, .int .i64 t311, .int .u8 t312, .int .i64 t313, .int .i64 t314, .bool t315, .bool t316, .int .u8 t317, .int .i64 t318, .int .i64 t319, .int .i64 t320, .int .i64 t321, .int .u8 t322] ?hg ?ho ?hn ?hx ?hy ?hb (by rfl) (by kernel_rfl) (by kernel_rfl) ?_; (case ho => rfl); (case hg => rfl); (case hn => rfl); (case hx => rfl); (case hy => rfl); (case hb => exact BK323.out); intro w20 hblk hoth hbel; have n0_ : Aside0 (w20.heap[gb305]? = some (.cells #[.int .u8 a0_0, .int .i64 a0_1, .int .i64 a0_2, .int .i64 a0_3, .int .i64 a0_4, .int .u8 a0_5, .int .i64 a0_6, .int .i64 a0_7, .bool a0_8, .bool a0_9, .int .u8 a0_10, .int .i64 a0_11, .int .i64 a0_12, .int .i64 a0_13, .int .i64 a0_14, .int .u8 a0_15] 27 (0, 0))) := ⟨(hoth gb305 NB305_323.out).trans (by (with_reducible repeat (first | refine kN ?_ _ | refine kD ?_ | refine kA ?_ _)); exact BK305.out)⟩; have n1_ : Aside0 (w20.heap[gb306]? = some (.cells #[.int .u8 a1_0, .int .i64 a1_1, .int .i64 a1_2, .int .i64 a1_3, .int .i64 a1_4, .int .u8 a1_5, .int .i64 a1_6, .int .i64 a1_7, .bool a1_8, .bool a1_9, .int .u8 a1_10, .int .i64 a1_11, .int .i64 a1_12, .int .i64 a1_13, .int .i64 a1_14, .int .u8 a1_15] 27 (0, 0))) := ⟨(hoth gb306 NB306_323.out).trans (by (with_reducible repeat (first | refine kN ?_ _ | refine kD ?_ | refine kA ?_ _)); exact BK306.out)⟩; have n2_ : Aside0 (w20.heap[gb323]? = some (.cells #[.int .u8 t307, .int .i64 t308, .int .i64 t309, .int .i64 t310, .int .i64 t311, .int .u8 t312, .int .i64 t313, .int .i64 t314, .bool t315, .bool t316, .int .u8 t317, .int .i64 t318, .int .i64 t319, .int .i64 t320, .int .i64 t321, .int .u8 t322] 27 (0, 0))) := ⟨hblk⟩; have n3_ : Aside0 (Below w.heap.size w w20) := ⟨Below.trans (by repeat (first | (with_reducible first | exact HB.out | apply kL | apply kM | apply kE | refine kS ?_ GE305.out | refine kS ?_ GE306.out | refine kS ?_ GE323.out) | exact HB.out)) (hbel _ GE323.out)⟩; clear hblk hoth hbel; clear BK305; clear BK306; clear BK323; clear HB; have BK305 := n0_; have BK306 := n1_; have BK323 := n2_; have HB := n3_; clear n0_ n1_ n2_ n3_; obtain ⟨hcz21_0, hcz21_1, hcz21_2, hcz21_3, hcz21_4, hcz21_5, hcz21_6, hcz21_7, hcz21_8, hcz21_9, hcz21_10, hcz21_11, hcz21_12, hcz21_13, hcz21_14, hcz21_15, hfz21_0, hfz21_1, hfz21_2, hfz21_3, hfz21_4, hfz21_5, hfz21_6, hfz21_7, hfz21_8, hfz21_9, hfz21_10, hfz21_11, hfz21_12, hfz21_13, hfz21_14, hfz21_15⟩ := bxc16 BK306.out) | ((with_reducible refine gate_dst (N := 11) rfl ?_); refine wpList_load_row rfl 27 (.tmp 4) rfl gb306 rfl 27 #[.int .u8 a1_0, .int .i64 a1_1, .int .i64 a1_2, .int .i64 a1_3, .int .i64 a1_4, .int .u8 a1_5, .int .i64 a1_6, .int .i64 a1_7, .bool a1_8, .bool a1_9, .int .u8 a1_10, .int .i64 a1_11, .int .i64 a1_12, .int .i64 a1_13, .int .i64 a1_14, .int .u8 a1_15] (0, 0) _ (by (with_reducible repeat (first | refine kN ?_ _ | refine kD ?_ | refine kA ?_ _)); exact BK306.out) Try.underlying27 rfl (by kernel_rfl) ?_) | ((with_reducible refine gate_callee (f := 9) rfl ?_); refine goesL_ (some 12) rfl rfl Try.func9 (by kernel_rfl) rfl #[.agg #[.int .u8 a1_0, .int .i64 a1_1, .int .i64 a1_2, .int .i64 a1_3, .int .i64 a1_4, .int .u8 a1_5, .int .i64 a1_6, .int .i64 a1_7, .bool a1_8, .bool a1_9, .int .u8 a1_10, .int .i64 a1_11, .int .i64 a1_12, .int .i64 a1_13, .int .i64 a1_14, .int .u8 a1_15]] rfl (by (try simp only [List.map_toArray, List.map_cons, List.map_nil]); first | done | rfl | (simp only [List.length_drop, List.length_take]; rfl)) ?_; (with_reducible refine (paybooklaw10_near.calls k a1_0 a1_1 a1_2 a1_3 a1_4 a1_5 a1_6 a1_7 a1_8 a1_9 a1_10 a1_11 a1_12 a1_13 a1_14 a1_15 t324 t325 t326 t327 t328 t329 t330 t331 t332 t333 t334 t335 t336 t337 t338 t339 _ A5.out).mono ?_); rintro e w22 ⟨rfl, hb⟩; refine ⟨_, rfl, ?_⟩; have n0_ := Aside0.mk (blk_below (g := gb305) (o := .cells #[.int .u8 a0_0, .int .i64 a0_1, .int .i64 a0_2, .int .i64 a0_3, .int .i64 a0_4, .int .u8 a0_5, .int .i64 a0_6, .int .i64 a0_7, .bool a0_8, .bool a0_9, .int .u8 a0_10, .int .i64 a0_11, .int .i64 a0_12, .int .i64 a0_13, .int .i64 a0_14, .int .u8 a0_15] 27 (0, 0)) (by (with_reducible repeat (first | refine kN ?_ _ | refine kD ?_ | refine kA ?_ _)); exact BK305.out) hb); have n1_ := Aside0.mk (blk_below (g := gb306) (o := .cells #[.int .u8 a1_0, .int .i64 a1_1, .int .i64 a1_2, .int .i64 a1_3, .int .i64 a1_4, .int .u8 a1_5, .int .i64 a1_6, .int .i64 a1_7, .bool a1_8, .bool a1_9, .int .u8 a1_10, .int .i64 a1_11, .int .i64 a1_12, .int .i64 a1_13, .int .i64 a1_14, .int .u8 a1_15] 27 (0, 0)) (by (with_reducible repeat (first | refine kN ?_ _ | refine kD ?_ | refine kA ?_ _)); exact BK306.out) hb); have n2_ := Aside0.mk (blk_below (g := gb323) (o := .cells #[.int .u8 t307, .int .i64 t308, .int .i64 t309, .int .i64 t310, .int .i64 t311, .int .u8 t312, .int .i64 t313, .int .i64 t314, .bool t315, .bool t316, .int .u8 t317, .int .i64 t318, .int .i64 t319, .int .i64 t320, .int .i64 t321, .int .u8 t322] 27 (0, 0)) (by (with_reducible repeat (first | refine kN ?_ _ | refine kD ?_ | refine kA ?_ _)); exact BK323.out) hb); have n3_ := Aside0.mk (below_step (by repeat (first | (with_reducible first | exact HB.out | apply kL | apply kM | apply kE | refine kS ?_ GE305.out | refine kS ?_ GE306.out | refine kS ?_ GE323.out) | exact HB.out)) hb); clear BK305; clear BK306; clear BK323; clear HB; have BK305 := n0_; have BK306 := n1_; have BK323 := n2_; have HB := n3_; clear n0_ n1_ n2_ n3_; (try clear hb); (try clear hb2); (try clear hk); (try clear hi)) | ((with_reducible refine gate_dst (N := 8) rfl ?_); refine box_event ?hg (N := 8) ?hd (cs := #[.int .u8 0, .int .i64 0, .int .i64 0, .int .i64 0, .int .i64 0, .int .u8 0, .int .i64 0, .int .i64 0, .bool false, .bool false, .int .u8 0, .int .i64 0, .int .i64 0, .int .i64 0, .int .i64 0, .int .u8 0]) (t := 27) ?hr ?_; (case hd => rfl); (case hg => rfl); (case hr => first | (go_simp; done) | (go_simp; rfl)); intro gb340 hg w23 hbox hb; have n0_ := Aside0.mk (blk_below (g := gb305) (o := .cells #[.int .u8 a0_0, .int .i64 a0_1, .int .i64 a0_2, .int .i64 a0_3, .int .i64 a0_4, .int .u8 a0_5, .int .i64 a0_6, .int .i64 a0_7, .bool a0_8, .bool a0_9, .int .u8 a0_10, .int .i64 a0_11, .int .i64 a0_12, .int .i64 a0_13, .int .i64 a0_14, .int .u8 a0_15] 27 (0, 0)) (by (with_reducible repeat (first | refine kN ?_ _ | refine kD ?_ | refine kA ?_ _)); exact BK305.out) hb); have n1_ := Aside0.mk (blk_below (g := gb306) (o := .cells #[.int .u8 a1_0, .int .i64 a1_1, .int .i64 a1_2, .int .i64 a1_3, .int .i64 a1_4, .int .u8 a1_5, .int .i64 a1_6, .int .i64 a1_7, .bool a1_8, .bool a1_9, .int .u8 a1_10, .int .i64 a1_11, .int .i64 a1_12, .int .i64 a1_13, .int .i64 a1_14, .int .u8 a1_15] 27 (0, 0)) (by (with_reducible repeat (first | refine kN ?_ _ | refine kD ?_ | refine kA ?_ _)); exact BK306.out) hb); have n2_ := Aside0.mk (blk_below (g := gb323) (o := .cells #[.int .u8 t307, .int .i64 t308, .int .i64 t309, .int .i64 t310, .int .i64 t311, .int .u8 t312, .int .i64 t313, .int .i64 t314, .bool t315, .bool t316, .int .u8 t317, .int .i64 t318, .int .i64 t319, .int .i64 t320, .int .i64 t321, .int .u8 t322] 27 (0, 0)) (by (with_reducible repeat (first | refine kN ?_ _ | refine kD ?_ | refine kA ?_ _)); exact BK323.out) hb); have n3_ := Aside0.mk (below_step (by repeat (first | (with_reducible first | exact HB.out | apply kL | apply kM | apply kE | refine kS ?_ GE305.out | refine kS ?_ GE306.out | refine kS ?_ GE323.out) | exact HB.out)) hb); have n4_ := Aside0.mk (hbox); have n5_ := Aside0.mk ((by rw [hg]; exact (below_size (by repeat (first | (with_reducible first | exact HB.out | apply kL | apply kM | apply kE | refine kS ?_ GE305.out | refine kS ?_ GE306.out | refine kS ?_ GE323.out) | exact HB.out))) : w.heap.size ≤ gb340)); have n6_ := Aside0.mk ((by rw [hg]; exact (below_size (by repeat (first | (with_reducible first | exact HB.out | apply kL | apply kM | apply kE | refine kS ?_ GE305.out | refine kS ?_ GE306.out | refine kS ?_ GE323.out) | exact HB.out))) : w.heap.size ≤ gb340)); have n7_ := Aside0.mk ((by rw [hg]; exact Nat.ne_of_lt (blk_lt (g := gb305) (o := .cells #[.int .u8 a0_0, .int .i64 a0_1, .int .i64 a0_2, .int .i64 a0_3, .int .i64 a0_4, .int .u8 a0_5, .int .i64 a0_6, .int .i64 a0_7, .bool a0_8, .bool a0_9, .int .u8 a0_10, .int .i64 a0_11, .int .i64 a0_12, .int .i64 a0_13, .int .i64 a0_14, .int .u8 a0_15] 27 (0, 0)) (by (with_reducible repeat (first | refine kN ?_ _ | refine kD ?_ | refine kA ?_ _)); exact BK305.out)) : gb305 ≠ gb340)); have n8_ := Aside0.mk ((by rw [hg]; exact Nat.ne_of_gt (blk_lt (g := gb305) (o := .cells #[.int .u8 a0_0, .int .i64 a0_1, .int .i64 a0_2, .int .i64 a0_3, .int .i64 a0_4, .int .u8 a0_5, .int .i64 a0_6, .int .i64 a0_7, .bool a0_8, .bool a0_9, .int .u8 a0_10, .int .i64 a0_11, .int .i64 a0_12, .int .i64 a0_13, .int .i64 a0_14, .int .u8 a0_15] 27 (0, 0)) (by (with_reducible repeat (first | refine kN ?_ _ | refine kD ?_ | refine kA ?_ _)); exact BK305.out)) : gb340 ≠ gb305)); have n9_ := Aside0.mk ((by rw [hg]; exact Nat.ne_of_lt (blk_lt (g := gb306) (o := .cells #[.int .u8 a1_0, .int .i64 a1_1, .int .i64 a1_2, .int .i64 a1_3, .int .i64 a1_4, .int .u8 a1_5, .int .i64 a1_6, .int .i64 a1_7, .bool a1_8, .bool a1_9, .int .u8 a1_10, .int .i64 a1_11, .int .i64 a1_12, .int .i64 a1_13, .int .i64 a1_14, .int .u8 a1_15] 27 (0, 0)) (by (with_reducible repeat (first | refine kN ?_ _ | refine kD ?_ | refine kA ?_ _)); exact BK306.out)) : gb306 ≠ gb340)); have n10_ := Aside0.mk ((by rw [hg]; exact Nat.ne_of_gt (blk_lt (g := gb306) (o := .cells #[.int .u8 a1_0, .int .i64 a1_1, .int .i64 a1_2, .int .i64 a1_3, .int .i64 a1_4, .int .u8 a1_5, .int .i64 a1_6, .int .i64 a1_7, .bool a1_8, .bool a1_9, .int .u8 a1_10, .int .i64 a1_11, .int .i64 a1_12, .int .i64 a1_13, .int .i64 a1_14, .int .u8 a1_15] 27 (0, 0)) (by (with_reducible repeat (first | refine kN ?_ _ | refine kD ?_ | refine kA ?_ _)); exact BK306.out)) : gb340 ≠ gb306)); have n11_ := Aside0.mk ((by rw [hg]; exact Nat.ne_of_lt (blk_lt (g := gb323) (o := .cells #[.int .u8 t307, .int .i64 t308, .int .i64 t309, .int .i64 t310, .int .i64 t311, .int .u8 t312, .int .i64 t313, .int .i64 t314, .bool t315, .bool t316, .int .u8 t317, .int .i64 t318, .int .i64 t319, .int .i64 t320, .int .i64 t321, .int .u8 t322] 27 (0, 0)) (by (with_reducible repeat (first | refine kN ?_ _ | refine kD ?_ | refine kA ?_ _)); exact BK323.out)) : gb323 ≠ gb340)); have n12_ := Aside0.mk ((by rw [hg]; exact Nat.ne_of_gt (blk_lt (g := gb323) (o := .cells #[.int .u8 t307, .int .i64 t308, .int .i64 t309, .int .i64 t310, .int .i64 t311, .int .u8 t312, .int .i64 t313, .int .i64 t314, .bool t315, .bool t316, .int .u8 t317, .int .i64 t318, .int .i64 t319, .int .i64 t320, .int .i64 t321, .int .u8 t322] 27 (0, 0)) (by (with_reducible repeat (first | refine kN ?_ _ | refine kD ?_ | refine kA ?_ _)); exact BK323.out)) : gb340 ≠ gb323)); clear BK305; clear BK306; clear BK323; clear HB; have BK305 := n0_; have BK306 := n1_; have BK323 := n2_; have HB := n3_; have BK340 := n4_; have GW340 := n5_; have GE340 := n6_; have NB305_340 := n7_; have NB340_305 := n8_; have NB306_340 := n9_; have NB340_306 := n10_; have NB323_340 := n11_; have NB340_323 := n12_; clear n0_ n1_ n2_ n3_ n4_ n5_ n6_ n7_ n8_ n9_ n10_ n11_ n12_; clear hb hbox hg; have hnb24 := NB340_305.out; have hnc24 := NB305_340.out; have hnb25 := NB340_306.out; have hnc25 := NB306_340.out; have hnb26 := NB340_323.out; have hnc26 := NB323_340.out; obtain ⟨hcz27_0, hcz27_1, hcz27_2, hcz27_3, hcz27_4, hcz27_5, hcz27_6, hcz27_7, hcz27_8, hcz27_9, hcz27_10, hcz27_11, hcz27_12, hcz27_13, hcz27_14, hcz27_15, hfz27_0, hfz27_1, hfz27_2, hfz27_3, hfz27_4, hfz27_5, hfz27_6, hfz27_7, hfz27_8, hfz27_9, hfz27_10, hfz27_11, hfz27_12, hfz27_13, hfz27_14, hfz27_15⟩ := bxc16 BK340.out) | ((with_reducible refine gate_store (t := 27) (p := 8) rfl ?_); refine rec_event (t := 27) (p := 8) (v := ?vo_w28) (g := gb340) (t' := 27) #[.int .u8 0, .int .i64 0, .int .i64 0, .int .i64 0, .int .i64 0, .int .u8 0, .int .i64 0, .int .i64 0, .bool false, .bool false, .int .u8 0, .int .i64 0, .int .i64 0, .int .i64 0, .int .i64 0, .int .u8 0] #[.int .u8 t324, .int .i64 t325, .int .i64 t326, .int .i64 t327, .int .i64 t328, .int .u8 t329, .int .i64 t330, .int .i64 t331, .bool t332, .bool t333, .int .u8 t334, .int .i64 t335, .int .i64 t336, .int .i64 t337, .int .i64 t338, .int .u8 t339] ?hg ?ho ?hn ?hx ?hy ?hb (by rfl) (by kernel_rfl) (by kernel_rfl) ?_; (case ho => rfl); (case hg => rfl); (case hn => rfl); (case hx => rfl); (case hy => rfl); (case hb => exact BK340.out); intro w28 hblk hoth hbel; have n0_ : Aside0 (w28.heap[gb305]? = some (.cells #[.int .u8 a0_0, .int .i64 a0_1, .int .i64 a0_2, .int .i64 a0_3, .int .i64 a0_4, .int .u8 a0_5, .int .i64 a0_6, .int .i64 a0_7, .bool a0_8, .bool a0_9, .int .u8 a0_10, .int .i64 a0_11, .int .i64 a0_12, .int .i64 a0_13, .int .i64 a0_14, .int .u8 a0_15] 27 (0, 0))) := ⟨(hoth gb305 NB305_340.out).trans (by (with_reducible repeat (first | refine kN ?_ _ | refine kD ?_ | refine kA ?_ _)); exact BK305.out)⟩; have n1_ : Aside0 (w28.heap[gb306]? = some (.cells #[.int .u8 a1_0, .int .i64 a1_1, .int .i64 a1_2, .int .i64 a1_3, .int .i64 a1_4, .int .u8 a1_5, .int .i64 a1_6, .int .i64 a1_7, .bool a1_8, .bool a1_9, .int .u8 a1_10, .int .i64 a1_11, .int .i64 a1_12, .int .i64 a1_13, .int .i64 a1_14, .int .u8 a1_15] 27 (0, 0))) := ⟨(hoth gb306 NB306_340.out).trans (by (with_reducible repeat (first | refine kN ?_ _ | refine kD ?_ | refine kA ?_ _)); exact BK306.out)⟩; have n2_ : Aside0 (w28.heap[gb323]? = some (.cells #[.int .u8 t307, .int .i64 t308, .int .i64 t309, .int .i64 t310, .int .i64 t311, .int .u8 t312, .int .i64 t313, .int .i64 t314, .bool t315, .bool t316, .int .u8 t317, .int .i64 t318, .int .i64 t319, .int .i64 t320, .int .i64 t321, .int .u8 t322] 27 (0, 0))) := ⟨(hoth gb323 NB323_340.out).trans (by (with_reducible repeat (first | refine kN ?_ _ | refine kD ?_ | refine kA ?_ _)); exact BK323.out)⟩; have n3_ : Aside0 (w28.heap[gb340]? = some (.cells #[.int .u8 t324, .int .i64 t325, .int .i64 t326, .int .i64 t327, .int .i64 t328, .int .u8 t329, .int .i64 t330, .int .i64 t331, .bool t332, .bool t333, .int .u8 t334, .int .i64 t335, .int .i64 t336, .int .i64 t337, .int .i64 t338, .int .u8 t339] 27 (0, 0))) := ⟨hblk⟩; have n4_ : Aside0 (Below w.heap.size w w28) := ⟨Below.trans (by repeat (first | (with_reducible first | exact HB.out | apply kL | apply kM | apply kE | refine kS ?_ GE305.out | refine kS ?_ GE306.out | refine kS ?_ GE323.out | refine kS ?_ GE340.out) | exact HB.out)) (hbel _ GE340.out)⟩; clear hblk hoth hbel; clear BK305; clear BK306; clear BK323; clear BK340; clear HB; have BK305 := n0_; have BK306 := n1_; have BK323 := n2_; have BK340 := n3_; have HB := n4_; clear n0_ n1_ n2_ n3_ n4_; obtain ⟨hcz29_0, hcz29_1, hcz29_2, hcz29_3, hcz29_4, hcz29_5, hcz29_6, hcz29_7, hcz29_8, hcz29_9, hcz29_10, hcz29_11, hcz29_12, hcz29_13, hcz29_14, hcz29_15, hfz29_0, hfz29_1, hfz29_2, hfz29_3, hfz29_4, hfz29_5, hfz29_6, hfz29_7, hfz29_8, hfz29_9, hfz29_10, hfz29_11, hfz29_12, hfz29_13, hfz29_14, hfz29_15⟩ := bxc16 BK323.out; obtain ⟨hcz30_0, hcz30_1, hcz30_2, hcz30_3, hcz30_4, hcz30_5, hcz30_6, hcz30_7, hcz30_8, hcz30_9, hcz30_10, hcz30_11, hcz30_12, hcz30_13, hcz30_14, hcz30_15, hfz30_0, hfz30_1, hfz30_2, hfz30_3, hfz30_4, hfz30_5, hfz30_6, hfz30_7, hfz30_8, hfz30_9, hfz30_10, hfz30_11, hfz30_12, hfz30_13, hfz30_14, hfz30_15⟩ := bxc16 BK340.out) | ((with_reducible refine gate_dst (N := 14) rfl ?_); refine wpList_load_row rfl 27 (.tmp 7) rfl gb323 rfl 27 #[.int .u8 t307, .int .i64 t308, .int .i64 t309, .int .i64 t310, .int .i64 t311, .int .u8 t312, .int .i64 t313, .int .i64 t314, .bool t315, .bool t316, .int .u8 t317, .int .i64 t318, .int .i64 t319, .int .i64 t320, .int .i64 t321, .int .u8 t322] (0, 0) _ (by (with_reducible repeat (first | refine kN ?_ _ | refine kD ?_ | refine kA ?_ _)); exact BK323.out) Try.underlying27 rfl (by kernel_rfl) ?_) | ((with_reducible refine gate_store (t := 27) (p := 8) rfl ?_); refine rec_event (t := 27) (p := 8) (v := ?vo_w31) (g := gb340) (t' := 27) #[.int .u8 t324, .int .i64 t325, .int .i64 t326, .int .i64 t327, .int .i64 t328, .int .u8 t329, .int .i64 t330, .int .i64 t331, .bool t332, .bool t333, .int .u8 t334, .int .i64 t335, .int .i64 t336, .int .i64 t337, .int .i64 t338, .int .u8 t339] #[.int .u8 t307, .int .i64 t308, .int .i64 t309, .int .i64 t310, .int .i64 t311, .int .u8 t312, .int .i64 t313, .int .i64 t314, .bool t315, .bool t316, .int .u8 t317, .int .i64 t318, .int .i64 t319, .int .i64 t320, .int .i64 t321, .int .u8 t322] ?hg ?ho ?hn ?hx ?hy ?hb (by rfl) (by kernel_rfl) (by kernel_rfl) ?_; (case ho => rfl); (case hg => rfl); (case hn => rfl); (case hx => rfl); (case hy => rfl); (case hb => exact BK340.out); intro w31 hblk hoth hbel; have n0_ : Aside0 (w31.heap[gb305]? = some (.cells #[.int .u8 a0_0, .int .i64 a0_1, .int .i64 a0_2, .int .i64 a0_3, .int .i64 a0_4, .int .u8 a0_5, .int .i64 a0_6, .int .i64 a0_7, .bool a0_8, .bool a0_9, .int .u8 a0_10, .int .i64 a0_11, .int .i64 a0_12, .int .i64 a0_13, .int .i64 a0_14, .int .u8 a0_15] 27 (0, 0))) := ⟨(hoth gb305 NB305_340.out).trans (by (with_reducible repeat (first | refine kN ?_ _ | refine kD ?_ | refine kA ?_ _)); exact BK305.out)⟩; have n1_ : Aside0 (w31.heap[gb306]? = some (.cells #[.int .u8 a1_0, .int .i64 a1_1, .int .i64 a1_2, .int .i64 a1_3, .int .i64 a1_4, .int .u8 a1_5, .int .i64 a1_6, .int .i64 a1_7, .bool a1_8, .bool a1_9, .int .u8 a1_10, .int .i64 a1_11, .int .i64 a1_12, .int .i64 a1_13, .int .i64 a1_14, .int .u8 a1_15] 27 (0, 0))) := ⟨(hoth gb306 NB306_340.out).trans (by (with_reducible repeat (first | refine kN ?_ _ | refine kD ?_ | refine kA ?_ _)); exact BK306.out)⟩; have n2_ : Aside0 (w31.heap[gb323]? = some (.cells #[.int .u8 t307, .int .i64 t308, .int .i64 t309, .int .i64 t310, .int .i64 t311, .int .u8 t312, .int .i64 t313, .int .i64 t314, .bool t315, .bool t316, .int .u8 t317, .int .i64 t318, .int .i64 t319, .int .i64 t320, .int .i64 t321, .int .u8 t322] 27 (0, 0))) := ⟨(hoth gb323 NB323_340.out).trans (by (with_reducible repeat (first | refine kN ?_ _ | refine kD ?_ | refine kA ?_ _)); exact BK323.out)⟩; have n3_ : Aside0 (w31.heap[gb340]? = some (.cells #[.int .u8 t307, .int .i64 t308, .int .i64 t309, .int .i64 t310, .int .i64 t311, .int .u8 t312, .int .i64 t313, .int .i64 t314, .bool t315, .bool t316, .int .u8 t317, .int .i64 t318, .int .i64 t319, .int .i64 t320, .int .i64 t321, .int .u8 t322] 27 (0, 0))) := ⟨hblk⟩; have n4_ : Aside0 (Below w.heap.size w w31) := ⟨Below.trans (by repeat (first | (with_reducible first | exact HB.out | apply kL | apply kM | apply kE | refine kS ?_ GE305.out | refine kS ?_ GE306.out | refine kS ?_ GE323.out | refine kS ?_ GE340.out) | exact HB.out)) (hbel _ GE340.out)⟩; clear hblk hoth hbel; clear BK305; clear BK306; clear BK323; clear BK340; clear HB; have BK305 := n0_; have BK306 := n1_; have BK323 := n2_; have BK340 := n3_; have HB := n4_; clear n0_ n1_ n2_ n3_ n4_))
    have n0_ := Aside0.mk (kD BK305.out)
    have n1_ := Aside0.mk (kD BK306.out)
    have n2_ := Aside0.mk (kD BK323.out)
    have n3_ := Aside0.mk (kD BK340.out)
    have n4_ := Aside0.mk (kE HB.out)
    clear BK305
    clear BK306
    clear BK323
    clear BK340
    clear HB
    have BK305 := n0_
    have BK306 := n1_
    have BK323 := n2_
    have BK340 := n3_
    have HB := n4_
    clear n0_ n1_ n2_ n3_ n4_
    refine start_ (n := 15) (S := fun w' => w'.cell? ⟨gb323, 0, none⟩ = some (.int .u8 t307) ∧ w'.cell? ⟨gb323, 1, none⟩ = some (.int .i64 t308) ∧ w'.cell? ⟨gb323, 2, none⟩ = some (.int .i64 t309) ∧ w'.cell? ⟨gb323, 3, none⟩ = some (.int .i64 t310) ∧ w'.cell? ⟨gb323, 4, none⟩ = some (.int .i64 t311) ∧ w'.cell? ⟨gb323, 5, none⟩ = some (.int .u8 t312) ∧ w'.cell? ⟨gb323, 6, none⟩ = some (.int .i64 t313) ∧ w'.cell? ⟨gb323, 7, none⟩ = some (.int .i64 t314) ∧ w'.cell? ⟨gb323, 8, none⟩ = some (.bool t315) ∧ w'.cell? ⟨gb323, 9, none⟩ = some (.bool t316) ∧ w'.cell? ⟨gb323, 10, none⟩ = some (.int .u8 t317) ∧ w'.cell? ⟨gb323, 11, none⟩ = some (.int .i64 t318) ∧ w'.cell? ⟨gb323, 12, none⟩ = some (.int .i64 t319) ∧ w'.cell? ⟨gb323, 13, none⟩ = some (.int .i64 t320) ∧ w'.cell? ⟨gb323, 14, none⟩ = some (.int .i64 t321) ∧ w'.cell? ⟨gb323, 15, none⟩ = some (.int .u8 t322) ∧ w'.cell? ⟨gb340, 0, none⟩ = some (.int .u8 t307) ∧ w'.cell? ⟨gb340, 1, none⟩ = some (.int .i64 t308) ∧ w'.cell? ⟨gb340, 2, none⟩ = some (.int .i64 t309) ∧ w'.cell? ⟨gb340, 3, none⟩ = some (.int .i64 t310) ∧ w'.cell? ⟨gb340, 4, none⟩ = some (.int .i64 t311) ∧ w'.cell? ⟨gb340, 5, none⟩ = some (.int .u8 t312) ∧ w'.cell? ⟨gb340, 6, none⟩ = some (.int .i64 t313) ∧ w'.cell? ⟨gb340, 7, none⟩ = some (.int .i64 t314) ∧ w'.cell? ⟨gb340, 8, none⟩ = some (.bool t315) ∧ w'.cell? ⟨gb340, 9, none⟩ = some (.bool t316) ∧ w'.cell? ⟨gb340, 10, none⟩ = some (.int .u8 t317) ∧ w'.cell? ⟨gb340, 11, none⟩ = some (.int .i64 t318) ∧ w'.cell? ⟨gb340, 12, none⟩ = some (.int .i64 t319) ∧ w'.cell? ⟨gb340, 13, none⟩ = some (.int .i64 t320) ∧ w'.cell? ⟨gb340, 14, none⟩ = some (.int .i64 t321) ∧ w'.cell? ⟨gb340, 15, none⟩ = some (.int .u8 t322)) (ds := []) #[F,F,F,F,F,F,F,F,F,F,F,F,F,F,F] (by kernel_rfl) rfl rfl ⟨(kC BK323.out 0).trans rfl, (kC BK323.out 1).trans rfl, (kC BK323.out 2).trans rfl, (kC BK323.out 3).trans rfl, (kC BK323.out 4).trans rfl, (kC BK323.out 5).trans rfl, (kC BK323.out 6).trans rfl, (kC BK323.out 7).trans rfl, (kC BK323.out 8).trans rfl, (kC BK323.out 9).trans rfl, (kC BK323.out 10).trans rfl, (kC BK323.out 11).trans rfl, (kC BK323.out 12).trans rfl, (kC BK323.out 13).trans rfl, (kC BK323.out 14).trans rfl, (kC BK323.out 15).trans rfl, (kC BK340.out 0).trans rfl, (kC BK340.out 1).trans rfl, (kC BK340.out 2).trans rfl, (kC BK340.out 3).trans rfl, (kC BK340.out 4).trans rfl, (kC BK340.out 5).trans rfl, (kC BK340.out 6).trans rfl, (kC BK340.out 7).trans rfl, (kC BK340.out 8).trans rfl, (kC BK340.out 9).trans rfl, (kC BK340.out 10).trans rfl, (kC BK340.out 11).trans rfl, (kC BK340.out 12).trans rfl, (kC BK340.out 13).trans rfl, (kC BK340.out 14).trans rfl, (kC BK340.out 15).trans rfl⟩ (fun hHeld => ?_); refine with_tabW paybooklaw10_OrderApart.tab5 paybooklaw10_OrderApart.bits5 (fun HT_ HW_ => ?_)
    generalize w31.drew = w32 at BK305 BK306 BK323 BK340 HB hHeld ⊢
    refine one_ (i := 0) (N := some 15) #[T,F,F,F,F,F,F,F,F,F,F,F,F,F,F] rfl rfl (one_of HT_.out (by kernel_rfl)) (by decide) (fun K hK => ?_)
    refine goes_ Try.func10 (by kernel_rfl) rfl #[] (by rfl) rfl rfl (by (try simp only [List.map_toArray, List.map_cons, List.map_nil]); first | done | rfl | (simp only [List.length_drop, List.length_take]; rfl)) ?_
    with_reducible refine (paybooklaw10_awake.calls k  true _ A7.out).mono ?_
    rintro e w33 ⟨rfl, hb⟩
    refine ⟨_, rfl, ?_⟩
    have n0_ := Aside0.mk (blk_below (g := gb305) (o := .cells #[.int .u8 a0_0, .int .i64 a0_1, .int .i64 a0_2, .int .i64 a0_3, .int .i64 a0_4, .int .u8 a0_5, .int .i64 a0_6, .int .i64 a0_7, .bool a0_8, .bool a0_9, .int .u8 a0_10, .int .i64 a0_11, .int .i64 a0_12, .int .i64 a0_13, .int .i64 a0_14, .int .u8 a0_15] 27 (0, 0)) (by (with_reducible repeat (first | refine kN ?_ _ | refine kD ?_ | refine kA ?_ _)); exact BK305.out) hb)
    have n1_ := Aside0.mk (blk_below (g := gb306) (o := .cells #[.int .u8 a1_0, .int .i64 a1_1, .int .i64 a1_2, .int .i64 a1_3, .int .i64 a1_4, .int .u8 a1_5, .int .i64 a1_6, .int .i64 a1_7, .bool a1_8, .bool a1_9, .int .u8 a1_10, .int .i64 a1_11, .int .i64 a1_12, .int .i64 a1_13, .int .i64 a1_14, .int .u8 a1_15] 27 (0, 0)) (by (with_reducible repeat (first | refine kN ?_ _ | refine kD ?_ | refine kA ?_ _)); exact BK306.out) hb)
    have n2_ := Aside0.mk (blk_below (g := gb323) (o := .cells #[.int .u8 t307, .int .i64 t308, .int .i64 t309, .int .i64 t310, .int .i64 t311, .int .u8 t312, .int .i64 t313, .int .i64 t314, .bool t315, .bool t316, .int .u8 t317, .int .i64 t318, .int .i64 t319, .int .i64 t320, .int .i64 t321, .int .u8 t322] 27 (0, 0)) (by (with_reducible repeat (first | refine kN ?_ _ | refine kD ?_ | refine kA ?_ _)); exact BK323.out) hb)
    have n3_ := Aside0.mk (blk_below (g := gb340) (o := .cells #[.int .u8 t307, .int .i64 t308, .int .i64 t309, .int .i64 t310, .int .i64 t311, .int .u8 t312, .int .i64 t313, .int .i64 t314, .bool t315, .bool t316, .int .u8 t317, .int .i64 t318, .int .i64 t319, .int .i64 t320, .int .i64 t321, .int .u8 t322] 27 (0, 0)) (by (with_reducible repeat (first | refine kN ?_ _ | refine kD ?_ | refine kA ?_ _)); exact BK340.out) hb)
    have n4_ := Aside0.mk (below_step (by repeat (first | (with_reducible first | exact HB.out | apply kL | apply kM | apply kE | refine kS ?_ GE305.out | refine kS ?_ GE306.out | refine kS ?_ GE323.out | refine kS ?_ GE340.out) | exact HB.out)) hb)
    clear BK305
    clear BK306
    clear BK323
    clear BK340
    clear HB
    have BK305 := n0_
    have BK306 := n1_
    have BK323 := n2_
    have BK340 := n3_
    have HB := n4_
    clear n0_ n1_ n2_ n3_ n4_
    (try clear hb)
    (try clear hb2)
    (try clear hk)
    (try clear hi)
    refine hK.out _ _ ⟨(kC BK323.out 0).trans rfl, (kC BK323.out 1).trans rfl, (kC BK323.out 2).trans rfl, (kC BK323.out 3).trans rfl, (kC BK323.out 4).trans rfl, (kC BK323.out 5).trans rfl, (kC BK323.out 6).trans rfl, (kC BK323.out 7).trans rfl, (kC BK323.out 8).trans rfl, (kC BK323.out 9).trans rfl, (kC BK323.out 10).trans rfl, (kC BK323.out 11).trans rfl, (kC BK323.out 12).trans rfl, (kC BK323.out 13).trans rfl, (kC BK323.out 14).trans rfl, (kC BK323.out 15).trans rfl, (kC BK340.out 0).trans rfl, (kC BK340.out 1).trans rfl, (kC BK340.out 2).trans rfl, (kC BK340.out 3).trans rfl, (kC BK340.out 4).trans rfl, (kC BK340.out 5).trans rfl, (kC BK340.out 6).trans rfl, (kC BK340.out 7).trans rfl, (kC BK340.out 8).trans rfl, (kC BK340.out 9).trans rfl, (kC BK340.out 10).trans rfl, (kC BK340.out 11).trans rfl, (kC BK340.out 12).trans rfl, (kC BK340.out 13).trans rfl, (kC BK340.out 14).trans rfl, (kC BK340.out 15).trans rfl⟩ (fun hHeld => ?_)
    clear hK K
    refine norm_ (a' := ?_) ?_ ?_
    rotate_left
    ·show Act.put _ (some 15) _ = _
     simp only [Act.put, List.setIfInBounds_toArray, List.set_cons_zero, List.set_cons_succ, i64_w, i32_w]
     rfl
    refine pure_ (i := 1) (N := some 16) (v := ?_) (a' := ?_) #[T,T,F,F,F,F,F,F,F,F,F,F,F,F,F] rfl rfl (any_of HT_.out (by kernel_rfl)) (fun _ _ _ h => h) (Or.inl ⟨by rfl, ?_⟩) ?_ ?_
    rotate_left
    ·intro w'
     go_simp
     with_reducible rfl
    rotate_left
    ·simp only [Act.put, List.setIfInBounds_toArray, List.set_cons_zero, List.set_cons_succ, i64_w, i32_w]
     rfl
    refine take_ (i := 2) (N := some 17) (v := ?_) (a' := ?_) #[T,T,T,F,F,F,F,F,F,F,F,F,F,F,F] rfl rfl (take_ofW HT_.out HW_.out (by kernel_rfl)) (fun _ _ _ h => h) (Or.inl ⟨by rfl, ?_⟩) hHeld ?_ ?_
    rotate_left
    ·rintro w' ⟨s0, s1, s2, s3, s4, s5, s6, s7, s8, s9, s10, s11, s12, s13, s14, s15, s16, s17, s18, s19, s20, s21, s22, s23, s24, s25, s26, s27, s28, s29, s30, s31⟩
     go_simp
     with_reducible rfl
    rotate_left
    ·simp only [Act.put, List.setIfInBounds_toArray, List.set_cons_zero, List.set_cons_succ, i64_w, i32_w]
     rfl
    refine take_ (i := 5) (N := some 20) (v := ?_) (a' := ?_) #[T,T,T,F,F,T,F,F,F,F,F,F,F,F,F] rfl rfl (take_ofW HT_.out HW_.out (by kernel_rfl)) (fun _ _ _ h => h) (Or.inl ⟨by rfl, ?_⟩) hHeld ?_ ?_
    rotate_left
    ·rintro w' ⟨s0, s1, s2, s3, s4, s5, s6, s7, s8, s9, s10, s11, s12, s13, s14, s15, s16, s17, s18, s19, s20, s21, s22, s23, s24, s25, s26, s27, s28, s29, s30, s31⟩
     go_simp
     with_reducible rfl
    rotate_left
    ·simp only [Act.put, List.setIfInBounds_toArray, List.set_cons_zero, List.set_cons_succ, i64_w, i32_w]
     rfl
    refine take_ (i := 9) (N := some 24) (v := ?_) (a' := ?_) #[T,T,T,F,F,T,F,F,F,T,F,F,F,F,F] rfl rfl (take_ofW HT_.out HW_.out (by kernel_rfl)) (fun _ _ _ h => h) (Or.inl ⟨by rfl, ?_⟩) hHeld ?_ ?_
    rotate_left
    ·rintro w' ⟨s0, s1, s2, s3, s4, s5, s6, s7, s8, s9, s10, s11, s12, s13, s14, s15, s16, s17, s18, s19, s20, s21, s22, s23, s24, s25, s26, s27, s28, s29, s30, s31⟩
     go_simp
     with_reducible rfl
    rotate_left
    ·simp only [Act.put, List.setIfInBounds_toArray, List.set_cons_zero, List.set_cons_succ, i64_w, i32_w]
     rfl
    refine take_ (i := 10) (N := some 25) (v := ?_) (a' := ?_) #[T,T,T,F,F,T,F,F,F,T,T,F,F,F,F] rfl rfl (take_ofW HT_.out HW_.out (by kernel_rfl)) (fun _ _ _ h => h) (Or.inl ⟨by rfl, ?_⟩) hHeld ?_ ?_
    rotate_left
    ·rintro w' ⟨s0, s1, s2, s3, s4, s5, s6, s7, s8, s9, s10, s11, s12, s13, s14, s15, s16, s17, s18, s19, s20, s21, s22, s23, s24, s25, s26, s27, s28, s29, s30, s31⟩
     go_simp
     with_reducible rfl
    rotate_left
    ·simp only [Act.put, List.setIfInBounds_toArray, List.set_cons_zero, List.set_cons_succ, i64_w, i32_w]
     rfl
    refine pure_ (i := 11) (N := some 26) (v := ?_) (a' := ?_) #[T,T,T,F,F,T,F,F,F,T,T,T,F,F,F] rfl rfl (any_of HT_.out (by kernel_rfl)) (fun _ _ _ h => h) (Or.inl ⟨by rfl, ?_⟩) ?_ ?_
    rotate_left
    ·intro w'
     go_simp
     with_reducible rfl
    rotate_left
    ·simp only [Act.put, List.setIfInBounds_toArray, List.set_cons_zero, List.set_cons_succ, i64_w, i32_w]
     rfl
    refine one_ (i := 3) (N := some 18) #[T,T,T,T,F,T,F,F,F,T,T,T,F,F,F] rfl rfl (one_of HT_.out (by kernel_rfl)) (by decide) (fun K hK => ?_)
    refine goes_ Try.func15 (by kernel_rfl) rfl #[.agg #[.int .u8 t307, .int .i64 t308, .int .i64 t309, .int .i64 t310, .int .i64 t311, .int .u8 t312, .int .i64 t313, .int .i64 t314, .bool t315, .bool t316, .int .u8 t317, .int .i64 t318, .int .i64 t319, .int .i64 t320, .int .i64 t321, .int .u8 t322]] (by rfl) rfl rfl (by (try simp only [List.map_toArray, List.map_cons, List.map_nil]); first | done | rfl | (simp only [List.length_drop, List.length_take]; rfl)) ?_
    with_reducible refine (order_Encode.calls k t307 t308 t309 t310 t311 t312 t313 t314 t315 t316 t317 t318 t319 t320 t321 t322 t342 _ A9.out).mono ?_
    rintro e w34 ⟨v343, rfl, ho0, hb⟩
    refine ⟨_, rfl, ?_⟩
    have n0_ := Aside0.mk (Kd.R_lower ho0 (below_size (by repeat (first | (with_reducible first | exact HB.out | apply kL | apply kM | apply kE | refine kS ?_ GE305.out | refine kS ?_ GE306.out | refine kS ?_ GE323.out | refine kS ?_ GE340.out) | exact HB.out))))
    have n1_ := Aside0.mk (blk_below (g := gb305) (o := .cells #[.int .u8 a0_0, .int .i64 a0_1, .int .i64 a0_2, .int .i64 a0_3, .int .i64 a0_4, .int .u8 a0_5, .int .i64 a0_6, .int .i64 a0_7, .bool a0_8, .bool a0_9, .int .u8 a0_10, .int .i64 a0_11, .int .i64 a0_12, .int .i64 a0_13, .int .i64 a0_14, .int .u8 a0_15] 27 (0, 0)) (by (with_reducible repeat (first | refine kN ?_ _ | refine kD ?_ | refine kA ?_ _)); exact BK305.out) hb)
    have n2_ := Aside0.mk (blk_below (g := gb306) (o := .cells #[.int .u8 a1_0, .int .i64 a1_1, .int .i64 a1_2, .int .i64 a1_3, .int .i64 a1_4, .int .u8 a1_5, .int .i64 a1_6, .int .i64 a1_7, .bool a1_8, .bool a1_9, .int .u8 a1_10, .int .i64 a1_11, .int .i64 a1_12, .int .i64 a1_13, .int .i64 a1_14, .int .u8 a1_15] 27 (0, 0)) (by (with_reducible repeat (first | refine kN ?_ _ | refine kD ?_ | refine kA ?_ _)); exact BK306.out) hb)
    have n3_ := Aside0.mk (blk_below (g := gb323) (o := .cells #[.int .u8 t307, .int .i64 t308, .int .i64 t309, .int .i64 t310, .int .i64 t311, .int .u8 t312, .int .i64 t313, .int .i64 t314, .bool t315, .bool t316, .int .u8 t317, .int .i64 t318, .int .i64 t319, .int .i64 t320, .int .i64 t321, .int .u8 t322] 27 (0, 0)) (by (with_reducible repeat (first | refine kN ?_ _ | refine kD ?_ | refine kA ?_ _)); exact BK323.out) hb)
    have n4_ := Aside0.mk (blk_below (g := gb340) (o := .cells #[.int .u8 t307, .int .i64 t308, .int .i64 t309, .int .i64 t310, .int .i64 t311, .int .u8 t312, .int .i64 t313, .int .i64 t314, .bool t315, .bool t316, .int .u8 t317, .int .i64 t318, .int .i64 t319, .int .i64 t320, .int .i64 t321, .int .u8 t322] 27 (0, 0)) (by (with_reducible repeat (first | refine kN ?_ _ | refine kD ?_ | refine kA ?_ _)); exact BK340.out) hb)
    have n5_ := Aside0.mk (below_step (by repeat (first | (with_reducible first | exact HB.out | apply kL | apply kM | apply kE | refine kS ?_ GE305.out | refine kS ?_ GE306.out | refine kS ?_ GE323.out | refine kS ?_ GE340.out) | exact HB.out)) hb)
    clear BK305
    clear BK306
    clear BK323
    clear BK340
    clear HB
    have HO344 := n0_
    have BK305 := n1_
    have BK306 := n2_
    have BK323 := n3_
    have BK340 := n4_
    have HB := n5_
    clear n0_ n1_ n2_ n3_ n4_ n5_
    (try clear hb)
    (try clear hb2)
    (try clear hk)
    (try clear hi)
    (try clear ho0)
    refine hK.out _ _ ⟨(kC BK323.out 0).trans rfl, (kC BK323.out 1).trans rfl, (kC BK323.out 2).trans rfl, (kC BK323.out 3).trans rfl, (kC BK323.out 4).trans rfl, (kC BK323.out 5).trans rfl, (kC BK323.out 6).trans rfl, (kC BK323.out 7).trans rfl, (kC BK323.out 8).trans rfl, (kC BK323.out 9).trans rfl, (kC BK323.out 10).trans rfl, (kC BK323.out 11).trans rfl, (kC BK323.out 12).trans rfl, (kC BK323.out 13).trans rfl, (kC BK323.out 14).trans rfl, (kC BK323.out 15).trans rfl, (kC BK340.out 0).trans rfl, (kC BK340.out 1).trans rfl, (kC BK340.out 2).trans rfl, (kC BK340.out 3).trans rfl, (kC BK340.out 4).trans rfl, (kC BK340.out 5).trans rfl, (kC BK340.out 6).trans rfl, (kC BK340.out 7).trans rfl, (kC BK340.out 8).trans rfl, (kC BK340.out 9).trans rfl, (kC BK340.out 10).trans rfl, (kC BK340.out 11).trans rfl, (kC BK340.out 12).trans rfl, (kC BK340.out 13).trans rfl, (kC BK340.out 14).trans rfl, (kC BK340.out 15).trans rfl⟩ (fun hHeld => ?_)
    clear hK K
    refine norm_ (a' := ?_) ?_ ?_
    rotate_left
    ·show Act.put _ (some 18) _ = _
     simp only [Act.put, List.setIfInBounds_toArray, List.set_cons_zero, List.set_cons_succ, i64_w, i32_w]
     rfl
    refine join_ (σ := Value) 4 #[T,T,T,T,T,T,T,T,F,T,T,T,F,F,F] (fun s_ => [(19, .string (strOfNums t342)), (21, s_), (22, .string (strOfNums t345))]) (fun s_ w' => (w'.cell? ⟨gb323, 0, none⟩ = some (.int .u8 t307) ∧ w'.cell? ⟨gb323, 1, none⟩ = some (.int .i64 t308) ∧ w'.cell? ⟨gb323, 2, none⟩ = some (.int .i64 t309) ∧ w'.cell? ⟨gb323, 3, none⟩ = some (.int .i64 t310) ∧ w'.cell? ⟨gb323, 4, none⟩ = some (.int .i64 t311) ∧ w'.cell? ⟨gb323, 5, none⟩ = some (.int .u8 t312) ∧ w'.cell? ⟨gb323, 6, none⟩ = some (.int .i64 t313) ∧ w'.cell? ⟨gb323, 7, none⟩ = some (.int .i64 t314) ∧ w'.cell? ⟨gb323, 8, none⟩ = some (.bool t315) ∧ w'.cell? ⟨gb323, 9, none⟩ = some (.bool t316) ∧ w'.cell? ⟨gb323, 10, none⟩ = some (.int .u8 t317) ∧ w'.cell? ⟨gb323, 11, none⟩ = some (.int .i64 t318) ∧ w'.cell? ⟨gb323, 12, none⟩ = some (.int .i64 t319) ∧ w'.cell? ⟨gb323, 13, none⟩ = some (.int .i64 t320) ∧ w'.cell? ⟨gb323, 14, none⟩ = some (.int .i64 t321) ∧ w'.cell? ⟨gb323, 15, none⟩ = some (.int .u8 t322) ∧ w'.cell? ⟨gb340, 0, none⟩ = some (.int .u8 t307) ∧ w'.cell? ⟨gb340, 1, none⟩ = some (.int .i64 t308) ∧ w'.cell? ⟨gb340, 2, none⟩ = some (.int .i64 t309) ∧ w'.cell? ⟨gb340, 3, none⟩ = some (.int .i64 t310) ∧ w'.cell? ⟨gb340, 4, none⟩ = some (.int .i64 t311) ∧ w'.cell? ⟨gb340, 5, none⟩ = some (.int .u8 t312) ∧ w'.cell? ⟨gb340, 6, none⟩ = some (.int .i64 t313) ∧ w'.cell? ⟨gb340, 7, none⟩ = some (.int .i64 t314) ∧ w'.cell? ⟨gb340, 8, none⟩ = some (.bool t315) ∧ w'.cell? ⟨gb340, 9, none⟩ = some (.bool t316) ∧ w'.cell? ⟨gb340, 10, none⟩ = some (.int .u8 t317) ∧ w'.cell? ⟨gb340, 11, none⟩ = some (.int .i64 t318) ∧ w'.cell? ⟨gb340, 12, none⟩ = some (.int .i64 t319) ∧ w'.cell? ⟨gb340, 13, none⟩ = some (.int .i64 t320) ∧ w'.cell? ⟨gb340, 14, none⟩ = some (.int .i64 t321) ∧ w'.cell? ⟨gb340, 15, none⟩ = some (.int .u8 t322)) ∧ (Kd.R (Kd.int .u8) 5 w' w.heap.size (fun k_ => some k_ ≠ (s_ : Value).ownBlock) v343 t342) ∧ (Kd.R (Kd.int .u8) 5 w' w.heap.size (fun k_ => some k_ ≠ (v343 : Value).ownBlock) s_ t345) ∧ (w'.heap[gb305]? = some (.cells #[.int .u8 a0_0, .int .i64 a0_1, .int .i64 a0_2, .int .i64 a0_3, .int .i64 a0_4, .int .u8 a0_5, .int .i64 a0_6, .int .i64 a0_7, .bool a0_8, .bool a0_9, .int .u8 a0_10, .int .i64 a0_11, .int .i64 a0_12, .int .i64 a0_13, .int .i64 a0_14, .int .u8 a0_15] 27 (0, 0))) ∧ (w'.heap[gb306]? = some (.cells #[.int .u8 a1_0, .int .i64 a1_1, .int .i64 a1_2, .int .i64 a1_3, .int .i64 a1_4, .int .u8 a1_5, .int .i64 a1_6, .int .i64 a1_7, .bool a1_8, .bool a1_9, .int .u8 a1_10, .int .i64 a1_11, .int .i64 a1_12, .int .i64 a1_13, .int .i64 a1_14, .int .u8 a1_15] 27 (0, 0))) ∧ (w'.heap[gb323]? = some (.cells #[.int .u8 t307, .int .i64 t308, .int .i64 t309, .int .i64 t310, .int .i64 t311, .int .u8 t312, .int .i64 t313, .int .i64 t314, .bool t315, .bool t316, .int .u8 t317, .int .i64 t318, .int .i64 t319, .int .i64 t320, .int .i64 t321, .int .u8 t322] 27 (0, 0))) ∧ (w'.heap[gb340]? = some (.cells #[.int .u8 t307, .int .i64 t308, .int .i64 t309, .int .i64 t310, .int .i64 t311, .int .u8 t312, .int .i64 t313, .int .i64 t314, .bool t315, .bool t316, .int .u8 t317, .int .i64 t318, .int .i64 t319, .int .i64 t320, .int .i64 t321, .int .u8 t322] 27 (0, 0))) ∧ (Below w.heap.size w w')) ?_ ?_
    rotate_left
    ·intro hCont
     refine two_ (i := 4) (j := 6) (Ni := some 19) (Nj := some 21) #[T,T,T,T,T,T,F,F,F,T,T,T,F,F,F] #[T,T,T,T,F,T,T,F,F,T,T,T,F,F,F] rfl rfl rfl rfl (two_of HT_.out (by kernel_rfl)) (by decide) (by decide) (fun K hK => ?_) (fun K hK => ?_)
     ·skip
      have hcv35 := own_string (P := Try.prog) Try.underlying34 Try.underlying5 Try.underlying9 (Kd.own_of_R HO344.out)
      refine value_ (w1 := ?_) (v := ?_) (by rfl) rfl ?_ ?_
      rotate_left 2
      ·go_simp
       constructor
       ·rfl
       ·rfl
      clear hcv35
      refine hK.out _ _ ⟨(kC BK323.out 0).trans rfl, (kC BK323.out 1).trans rfl, (kC BK323.out 2).trans rfl, (kC BK323.out 3).trans rfl, (kC BK323.out 4).trans rfl, (kC BK323.out 5).trans rfl, (kC BK323.out 6).trans rfl, (kC BK323.out 7).trans rfl, (kC BK323.out 8).trans rfl, (kC BK323.out 9).trans rfl, (kC BK323.out 10).trans rfl, (kC BK323.out 11).trans rfl, (kC BK323.out 12).trans rfl, (kC BK323.out 13).trans rfl, (kC BK323.out 14).trans rfl, (kC BK323.out 15).trans rfl, (kC BK340.out 0).trans rfl, (kC BK340.out 1).trans rfl, (kC BK340.out 2).trans rfl, (kC BK340.out 3).trans rfl, (kC BK340.out 4).trans rfl, (kC BK340.out 5).trans rfl, (kC BK340.out 6).trans rfl, (kC BK340.out 7).trans rfl, (kC BK340.out 8).trans rfl, (kC BK340.out 9).trans rfl, (kC BK340.out 10).trans rfl, (kC BK340.out 11).trans rfl, (kC BK340.out 12).trans rfl, (kC BK340.out 13).trans rfl, (kC BK340.out 14).trans rfl, (kC BK340.out 15).trans rfl⟩ (fun hHeld => ?_)
      clear hK K
      refine norm_ (a' := ?_) ?_ ?_
      rotate_left
      ·show Act.put _ (some 19) _ = _
       simp only [Act.put, List.setIfInBounds_toArray, List.set_cons_zero, List.set_cons_succ, i64_w, i32_w]
       rfl
      refine one_ (i := 6) (N := some 21) #[T,T,T,T,T,T,T,F,F,T,T,T,F,F,F] rfl rfl (one_of HT_.out (by kernel_rfl)) (by decide) (fun K hK => ?_)
      refine goes_ Try.func15 (by kernel_rfl) rfl #[.agg #[.int .u8 t307, .int .i64 t308, .int .i64 t309, .int .i64 t310, .int .i64 t311, .int .u8 t312, .int .i64 t313, .int .i64 t314, .bool t315, .bool t316, .int .u8 t317, .int .i64 t318, .int .i64 t319, .int .i64 t320, .int .i64 t321, .int .u8 t322]] (by rfl) rfl rfl (by (try simp only [List.map_toArray, List.map_cons, List.map_nil]); first | done | rfl | (simp only [List.length_drop, List.length_take]; rfl)) ?_
      with_reducible refine (order_Encode.calls k t307 t308 t309 t310 t311 t312 t313 t314 t315 t316 t317 t318 t319 t320 t321 t322 t345 _ A10.out).mono ?_
      rintro e w36 ⟨v346, rfl, ho0, hb⟩
      refine ⟨_, rfl, ?_⟩
      have n0_ := Aside0.mk (Kd.R_elder' (by (with_reducible repeat (first | apply Kd.R_alloc | apply Kd.R_drewN | apply Kd.R_drew)); exact HO344.out) (Kd.R_base ho0) hb)
      have n1_ := Aside0.mk (Kd.R_lower (Kd.R_new' ho0 (Kd.R_lt (by (with_reducible repeat (first | apply Kd.R_alloc | apply Kd.R_drewN | apply Kd.R_drew)); exact HO344.out))) (below_size (by repeat (first | (with_reducible first | exact HB.out | apply kL | apply kM | apply kE | refine kS ?_ GE305.out | refine kS ?_ GE306.out | refine kS ?_ GE323.out | refine kS ?_ GE340.out) | exact HB.out))))
      have n2_ := Aside0.mk (blk_below (g := gb305) (o := .cells #[.int .u8 a0_0, .int .i64 a0_1, .int .i64 a0_2, .int .i64 a0_3, .int .i64 a0_4, .int .u8 a0_5, .int .i64 a0_6, .int .i64 a0_7, .bool a0_8, .bool a0_9, .int .u8 a0_10, .int .i64 a0_11, .int .i64 a0_12, .int .i64 a0_13, .int .i64 a0_14, .int .u8 a0_15] 27 (0, 0)) (by (with_reducible repeat (first | refine kN ?_ _ | refine kD ?_ | refine kA ?_ _)); exact BK305.out) hb)
      have n3_ := Aside0.mk (blk_below (g := gb306) (o := .cells #[.int .u8 a1_0, .int .i64 a1_1, .int .i64 a1_2, .int .i64 a1_3, .int .i64 a1_4, .int .u8 a1_5, .int .i64 a1_6, .int .i64 a1_7, .bool a1_8, .bool a1_9, .int .u8 a1_10, .int .i64 a1_11, .int .i64 a1_12, .int .i64 a1_13, .int .i64 a1_14, .int .u8 a1_15] 27 (0, 0)) (by (with_reducible repeat (first | refine kN ?_ _ | refine kD ?_ | refine kA ?_ _)); exact BK306.out) hb)
      have n4_ := Aside0.mk (blk_below (g := gb323) (o := .cells #[.int .u8 t307, .int .i64 t308, .int .i64 t309, .int .i64 t310, .int .i64 t311, .int .u8 t312, .int .i64 t313, .int .i64 t314, .bool t315, .bool t316, .int .u8 t317, .int .i64 t318, .int .i64 t319, .int .i64 t320, .int .i64 t321, .int .u8 t322] 27 (0, 0)) (by (with_reducible repeat (first | refine kN ?_ _ | refine kD ?_ | refine kA ?_ _)); exact BK323.out) hb)
      have n5_ := Aside0.mk (blk_below (g := gb340) (o := .cells #[.int .u8 t307, .int .i64 t308, .int .i64 t309, .int .i64 t310, .int .i64 t311, .int .u8 t312, .int .i64 t313, .int .i64 t314, .bool t315, .bool t316, .int .u8 t317, .int .i64 t318, .int .i64 t319, .int .i64 t320, .int .i64 t321, .int .u8 t322] 27 (0, 0)) (by (with_reducible repeat (first | refine kN ?_ _ | refine kD ?_ | refine kA ?_ _)); exact BK340.out) hb)
      have n6_ := Aside0.mk (below_step (by repeat (first | (with_reducible first | exact HB.out | apply kL | apply kM | apply kE | refine kS ?_ GE305.out | refine kS ?_ GE306.out | refine kS ?_ GE323.out | refine kS ?_ GE340.out) | exact HB.out)) hb)
      clear HO344
      clear BK305
      clear BK306
      clear BK323
      clear BK340
      clear HB
      have HO344 := n0_
      have HO347 := n1_
      have BK305 := n2_
      have BK306 := n3_
      have BK323 := n4_
      have BK340 := n5_
      have HB := n6_
      clear n0_ n1_ n2_ n3_ n4_ n5_ n6_
      (try clear hb)
      (try clear hb2)
      (try clear hk)
      (try clear hi)
      (try clear ho0)
      refine hK.out _ _ ⟨(kC BK323.out 0).trans rfl, (kC BK323.out 1).trans rfl, (kC BK323.out 2).trans rfl, (kC BK323.out 3).trans rfl, (kC BK323.out 4).trans rfl, (kC BK323.out 5).trans rfl, (kC BK323.out 6).trans rfl, (kC BK323.out 7).trans rfl, (kC BK323.out 8).trans rfl, (kC BK323.out 9).trans rfl, (kC BK323.out 10).trans rfl, (kC BK323.out 11).trans rfl, (kC BK323.out 12).trans rfl, (kC BK323.out 13).trans rfl, (kC BK323.out 14).trans rfl, (kC BK323.out 15).trans rfl, (kC BK340.out 0).trans rfl, (kC BK340.out 1).trans rfl, (kC BK340.out 2).trans rfl, (kC BK340.out 3).trans rfl, (kC BK340.out 4).trans rfl, (kC BK340.out 5).trans rfl, (kC BK340.out 6).trans rfl, (kC BK340.out 7).trans rfl, (kC BK340.out 8).trans rfl, (kC BK340.out 9).trans rfl, (kC BK340.out 10).trans rfl, (kC BK340.out 11).trans rfl, (kC BK340.out 12).trans rfl, (kC BK340.out 13).trans rfl, (kC BK340.out 14).trans rfl, (kC BK340.out 15).trans rfl⟩ (fun hHeld => ?_)
      clear hK K
      refine norm_ (a' := ?_) ?_ ?_
      rotate_left
      ·show Act.put _ (some 21) _ = _
       simp only [Act.put, List.setIfInBounds_toArray, List.set_cons_zero, List.set_cons_succ, i64_w, i32_w]
       rfl
      refine one_ (i := 7) (N := some 22) #[T,T,T,T,T,T,T,T,F,T,T,T,F,F,F] rfl rfl (one_of HT_.out (by kernel_rfl)) (by decide) (fun K hK => ?_)
      have hcv37 := own_string (P := Try.prog) Try.underlying34 Try.underlying5 Try.underlying9 (Kd.own_of_R HO347.out)
      refine value_ (w1 := ?_) (v := ?_) (by rfl) rfl ?_ ?_
      rotate_left 2
      ·go_simp
       constructor
       ·rfl
       ·rfl
      clear hcv37
      refine hK.out _ _ ⟨(kC BK323.out 0).trans rfl, (kC BK323.out 1).trans rfl, (kC BK323.out 2).trans rfl, (kC BK323.out 3).trans rfl, (kC BK323.out 4).trans rfl, (kC BK323.out 5).trans rfl, (kC BK323.out 6).trans rfl, (kC BK323.out 7).trans rfl, (kC BK323.out 8).trans rfl, (kC BK323.out 9).trans rfl, (kC BK323.out 10).trans rfl, (kC BK323.out 11).trans rfl, (kC BK323.out 12).trans rfl, (kC BK323.out 13).trans rfl, (kC BK323.out 14).trans rfl, (kC BK323.out 15).trans rfl, (kC BK340.out 0).trans rfl, (kC BK340.out 1).trans rfl, (kC BK340.out 2).trans rfl, (kC BK340.out 3).trans rfl, (kC BK340.out 4).trans rfl, (kC BK340.out 5).trans rfl, (kC BK340.out 6).trans rfl, (kC BK340.out 7).trans rfl, (kC BK340.out 8).trans rfl, (kC BK340.out 9).trans rfl, (kC BK340.out 10).trans rfl, (kC BK340.out 11).trans rfl, (kC BK340.out 12).trans rfl, (kC BK340.out 13).trans rfl, (kC BK340.out 14).trans rfl, (kC BK340.out 15).trans rfl⟩ (fun hHeld => ?_)
      clear hK K
      refine norm_ (a' := ?_) ?_ ?_
      rotate_left
      ·show Act.put _ (some 22) _ = _
       simp only [Act.put, List.setIfInBounds_toArray, List.set_cons_zero, List.set_cons_succ, i64_w, i32_w]
       rfl
      exact norm_ (by simp only [putAll, Act.put, List.setIfInBounds_toArray, List.set_cons_zero, List.set_cons_succ]) (hCont (v346) _ ⟨hHeld, (by (with_reducible repeat (first | apply Kd.R_alloc | apply Kd.R_drewN | apply Kd.R_drew)); exact Kd.R_mono HO344.out (fun _ hk => hk.2)), (by (with_reducible repeat (first | apply Kd.R_alloc | apply Kd.R_drewN | apply Kd.R_drew)); exact Kd.R_mono HO347.out (fun _ hk => hk.2)), (by (with_reducible repeat (first | refine kN ?_ _ | refine kD ?_ | refine kA ?_ _)); exact BK305.out), (by (with_reducible repeat (first | refine kN ?_ _ | refine kD ?_ | refine kA ?_ _)); exact BK306.out), (by (with_reducible repeat (first | refine kN ?_ _ | refine kD ?_ | refine kA ?_ _)); exact BK323.out), (by (with_reducible repeat (first | refine kN ?_ _ | refine kD ?_ | refine kA ?_ _)); exact BK340.out), (by repeat (first | (with_reducible first | exact HB.out | apply kL | apply kM | apply kE | refine kS ?_ GE305.out | refine kS ?_ GE306.out | refine kS ?_ GE323.out | refine kS ?_ GE340.out) | exact HB.out))⟩)
     ·skip
      refine goes_ Try.func15 (by kernel_rfl) rfl #[.agg #[.int .u8 t307, .int .i64 t308, .int .i64 t309, .int .i64 t310, .int .i64 t311, .int .u8 t312, .int .i64 t313, .int .i64 t314, .bool t315, .bool t316, .int .u8 t317, .int .i64 t318, .int .i64 t319, .int .i64 t320, .int .i64 t321, .int .u8 t322]] (by rfl) rfl rfl (by (try simp only [List.map_toArray, List.map_cons, List.map_nil]); first | done | rfl | (simp only [List.length_drop, List.length_take]; rfl)) ?_
      with_reducible refine (order_Encode.calls k t307 t308 t309 t310 t311 t312 t313 t314 t315 t316 t317 t318 t319 t320 t321 t322 t345 _ A10.out).mono ?_
      rintro e w35 ⟨v346, rfl, ho0, hb⟩
      refine ⟨_, rfl, ?_⟩
      have n0_ := Aside0.mk (Kd.R_elder' (by (with_reducible repeat (first | apply Kd.R_alloc | apply Kd.R_drewN | apply Kd.R_drew)); exact HO344.out) (Kd.R_base ho0) hb)
      have n1_ := Aside0.mk (Kd.R_lower (Kd.R_new' ho0 (Kd.R_lt (by (with_reducible repeat (first | apply Kd.R_alloc | apply Kd.R_drewN | apply Kd.R_drew)); exact HO344.out))) (below_size (by repeat (first | (with_reducible first | exact HB.out | apply kL | apply kM | apply kE | refine kS ?_ GE305.out | refine kS ?_ GE306.out | refine kS ?_ GE323.out | refine kS ?_ GE340.out) | exact HB.out))))
      have n2_ := Aside0.mk (blk_below (g := gb305) (o := .cells #[.int .u8 a0_0, .int .i64 a0_1, .int .i64 a0_2, .int .i64 a0_3, .int .i64 a0_4, .int .u8 a0_5, .int .i64 a0_6, .int .i64 a0_7, .bool a0_8, .bool a0_9, .int .u8 a0_10, .int .i64 a0_11, .int .i64 a0_12, .int .i64 a0_13, .int .i64 a0_14, .int .u8 a0_15] 27 (0, 0)) (by (with_reducible repeat (first | refine kN ?_ _ | refine kD ?_ | refine kA ?_ _)); exact BK305.out) hb)
      have n3_ := Aside0.mk (blk_below (g := gb306) (o := .cells #[.int .u8 a1_0, .int .i64 a1_1, .int .i64 a1_2, .int .i64 a1_3, .int .i64 a1_4, .int .u8 a1_5, .int .i64 a1_6, .int .i64 a1_7, .bool a1_8, .bool a1_9, .int .u8 a1_10, .int .i64 a1_11, .int .i64 a1_12, .int .i64 a1_13, .int .i64 a1_14, .int .u8 a1_15] 27 (0, 0)) (by (with_reducible repeat (first | refine kN ?_ _ | refine kD ?_ | refine kA ?_ _)); exact BK306.out) hb)
      have n4_ := Aside0.mk (blk_below (g := gb323) (o := .cells #[.int .u8 t307, .int .i64 t308, .int .i64 t309, .int .i64 t310, .int .i64 t311, .int .u8 t312, .int .i64 t313, .int .i64 t314, .bool t315, .bool t316, .int .u8 t317, .int .i64 t318, .int .i64 t319, .int .i64 t320, .int .i64 t321, .int .u8 t322] 27 (0, 0)) (by (with_reducible repeat (first | refine kN ?_ _ | refine kD ?_ | refine kA ?_ _)); exact BK323.out) hb)
      have n5_ := Aside0.mk (blk_below (g := gb340) (o := .cells #[.int .u8 t307, .int .i64 t308, .int .i64 t309, .int .i64 t310, .int .i64 t311, .int .u8 t312, .int .i64 t313, .int .i64 t314, .bool t315, .bool t316, .int .u8 t317, .int .i64 t318, .int .i64 t319, .int .i64 t320, .int .i64 t321, .int .u8 t322] 27 (0, 0)) (by (with_reducible repeat (first | refine kN ?_ _ | refine kD ?_ | refine kA ?_ _)); exact BK340.out) hb)
      have n6_ := Aside0.mk (below_step (by repeat (first | (with_reducible first | exact HB.out | apply kL | apply kM | apply kE | refine kS ?_ GE305.out | refine kS ?_ GE306.out | refine kS ?_ GE323.out | refine kS ?_ GE340.out) | exact HB.out)) hb)
      clear HO344
      clear BK305
      clear BK306
      clear BK323
      clear BK340
      clear HB
      have HO344 := n0_
      have HO347 := n1_
      have BK305 := n2_
      have BK306 := n3_
      have BK323 := n4_
      have BK340 := n5_
      have HB := n6_
      clear n0_ n1_ n2_ n3_ n4_ n5_ n6_
      (try clear hb)
      (try clear hb2)
      (try clear hk)
      (try clear hi)
      (try clear ho0)
      refine hK.out _ _ ⟨(kC BK323.out 0).trans rfl, (kC BK323.out 1).trans rfl, (kC BK323.out 2).trans rfl, (kC BK323.out 3).trans rfl, (kC BK323.out 4).trans rfl, (kC BK323.out 5).trans rfl, (kC BK323.out 6).trans rfl, (kC BK323.out 7).trans rfl, (kC BK323.out 8).trans rfl, (kC BK323.out 9).trans rfl, (kC BK323.out 10).trans rfl, (kC BK323.out 11).trans rfl, (kC BK323.out 12).trans rfl, (kC BK323.out 13).trans rfl, (kC BK323.out 14).trans rfl, (kC BK323.out 15).trans rfl, (kC BK340.out 0).trans rfl, (kC BK340.out 1).trans rfl, (kC BK340.out 2).trans rfl, (kC BK340.out 3).trans rfl, (kC BK340.out 4).trans rfl, (kC BK340.out 5).trans rfl, (kC BK340.out 6).trans rfl, (kC BK340.out 7).trans rfl, (kC BK340.out 8).trans rfl, (kC BK340.out 9).trans rfl, (kC BK340.out 10).trans rfl, (kC BK340.out 11).trans rfl, (kC BK340.out 12).trans rfl, (kC BK340.out 13).trans rfl, (kC BK340.out 14).trans rfl, (kC BK340.out 15).trans rfl⟩ (fun hHeld => ?_)
      clear hK K
      refine norm_ (a' := ?_) ?_ ?_
      rotate_left
      ·show Act.put _ (some 21) _ = _
       simp only [Act.put, List.setIfInBounds_toArray, List.set_cons_zero, List.set_cons_succ, i64_w, i32_w]
       rfl
      refine two_ (i := 4) (j := 7) (Ni := some 19) (Nj := some 22) #[T,T,T,T,T,T,T,F,F,T,T,T,F,F,F] #[T,T,T,T,F,T,T,T,F,T,T,T,F,F,F] rfl rfl rfl rfl (two_of HT_.out (by kernel_rfl)) (by decide) (by decide) (fun K hK => ?_) (fun K hK => ?_)
      ·skip
       have hcv36 := own_string (P := Try.prog) Try.underlying34 Try.underlying5 Try.underlying9 (Kd.own_of_R HO344.out)
       refine value_ (w1 := ?_) (v := ?_) (by rfl) rfl ?_ ?_
       rotate_left 2
       ·go_simp
        constructor
        ·rfl
        ·rfl
       clear hcv36
       refine hK.out _ _ ⟨(kC BK323.out 0).trans rfl, (kC BK323.out 1).trans rfl, (kC BK323.out 2).trans rfl, (kC BK323.out 3).trans rfl, (kC BK323.out 4).trans rfl, (kC BK323.out 5).trans rfl, (kC BK323.out 6).trans rfl, (kC BK323.out 7).trans rfl, (kC BK323.out 8).trans rfl, (kC BK323.out 9).trans rfl, (kC BK323.out 10).trans rfl, (kC BK323.out 11).trans rfl, (kC BK323.out 12).trans rfl, (kC BK323.out 13).trans rfl, (kC BK323.out 14).trans rfl, (kC BK323.out 15).trans rfl, (kC BK340.out 0).trans rfl, (kC BK340.out 1).trans rfl, (kC BK340.out 2).trans rfl, (kC BK340.out 3).trans rfl, (kC BK340.out 4).trans rfl, (kC BK340.out 5).trans rfl, (kC BK340.out 6).trans rfl, (kC BK340.out 7).trans rfl, (kC BK340.out 8).trans rfl, (kC BK340.out 9).trans rfl, (kC BK340.out 10).trans rfl, (kC BK340.out 11).trans rfl, (kC BK340.out 12).trans rfl, (kC BK340.out 13).trans rfl, (kC BK340.out 14).trans rfl, (kC BK340.out 15).trans rfl⟩ (fun hHeld => ?_)
       clear hK K
       refine norm_ (a' := ?_) ?_ ?_
       rotate_left
       ·show Act.put _ (some 19) _ = _
        simp only [Act.put, List.setIfInBounds_toArray, List.set_cons_zero, List.set_cons_succ, i64_w, i32_w]
        rfl
       refine one_ (i := 7) (N := some 22) #[T,T,T,T,T,T,T,T,F,T,T,T,F,F,F] rfl rfl (one_of HT_.out (by kernel_rfl)) (by decide) (fun K hK => ?_)
       have hcv37 := own_string (P := Try.prog) Try.underlying34 Try.underlying5 Try.underlying9 (Kd.own_of_R HO347.out)
       refine value_ (w1 := ?_) (v := ?_) (by rfl) rfl ?_ ?_
       rotate_left 2
       ·go_simp
        constructor
        ·rfl
        ·rfl
       clear hcv37
       refine hK.out _ _ ⟨(kC BK323.out 0).trans rfl, (kC BK323.out 1).trans rfl, (kC BK323.out 2).trans rfl, (kC BK323.out 3).trans rfl, (kC BK323.out 4).trans rfl, (kC BK323.out 5).trans rfl, (kC BK323.out 6).trans rfl, (kC BK323.out 7).trans rfl, (kC BK323.out 8).trans rfl, (kC BK323.out 9).trans rfl, (kC BK323.out 10).trans rfl, (kC BK323.out 11).trans rfl, (kC BK323.out 12).trans rfl, (kC BK323.out 13).trans rfl, (kC BK323.out 14).trans rfl, (kC BK323.out 15).trans rfl, (kC BK340.out 0).trans rfl, (kC BK340.out 1).trans rfl, (kC BK340.out 2).trans rfl, (kC BK340.out 3).trans rfl, (kC BK340.out 4).trans rfl, (kC BK340.out 5).trans rfl, (kC BK340.out 6).trans rfl, (kC BK340.out 7).trans rfl, (kC BK340.out 8).trans rfl, (kC BK340.out 9).trans rfl, (kC BK340.out 10).trans rfl, (kC BK340.out 11).trans rfl, (kC BK340.out 12).trans rfl, (kC BK340.out 13).trans rfl, (kC BK340.out 14).trans rfl, (kC BK340.out 15).trans rfl⟩ (fun hHeld => ?_)
       clear hK K
       refine norm_ (a' := ?_) ?_ ?_
       rotate_left
       ·show Act.put _ (some 22) _ = _
        simp only [Act.put, List.setIfInBounds_toArray, List.set_cons_zero, List.set_cons_succ, i64_w, i32_w]
        rfl
       exact norm_ (by simp only [putAll, Act.put, List.setIfInBounds_toArray, List.set_cons_zero, List.set_cons_succ]) (hCont (v346) _ ⟨hHeld, (by (with_reducible repeat (first | apply Kd.R_alloc | apply Kd.R_drewN | apply Kd.R_drew)); exact Kd.R_mono HO344.out (fun _ hk => hk.2)), (by (with_reducible repeat (first | apply Kd.R_alloc | apply Kd.R_drewN | apply Kd.R_drew)); exact Kd.R_mono HO347.out (fun _ hk => hk.2)), (by (with_reducible repeat (first | refine kN ?_ _ | refine kD ?_ | refine kA ?_ _)); exact BK305.out), (by (with_reducible repeat (first | refine kN ?_ _ | refine kD ?_ | refine kA ?_ _)); exact BK306.out), (by (with_reducible repeat (first | refine kN ?_ _ | refine kD ?_ | refine kA ?_ _)); exact BK323.out), (by (with_reducible repeat (first | refine kN ?_ _ | refine kD ?_ | refine kA ?_ _)); exact BK340.out), (by repeat (first | (with_reducible first | exact HB.out | apply kL | apply kM | apply kE | refine kS ?_ GE305.out | refine kS ?_ GE306.out | refine kS ?_ GE323.out | refine kS ?_ GE340.out) | exact HB.out))⟩)
      ·skip
       have hcv36 := own_string (P := Try.prog) Try.underlying34 Try.underlying5 Try.underlying9 (Kd.own_of_R HO347.out)
       refine value_ (w1 := ?_) (v := ?_) (by rfl) rfl ?_ ?_
       rotate_left 2
       ·go_simp
        constructor
        ·rfl
        ·rfl
       clear hcv36
       refine hK.out _ _ ⟨(kC BK323.out 0).trans rfl, (kC BK323.out 1).trans rfl, (kC BK323.out 2).trans rfl, (kC BK323.out 3).trans rfl, (kC BK323.out 4).trans rfl, (kC BK323.out 5).trans rfl, (kC BK323.out 6).trans rfl, (kC BK323.out 7).trans rfl, (kC BK323.out 8).trans rfl, (kC BK323.out 9).trans rfl, (kC BK323.out 10).trans rfl, (kC BK323.out 11).trans rfl, (kC BK323.out 12).trans rfl, (kC BK323.out 13).trans rfl, (kC BK323.out 14).trans rfl, (kC BK323.out 15).trans rfl, (kC BK340.out 0).trans rfl, (kC BK340.out 1).trans rfl, (kC BK340.out 2).trans rfl, (kC BK340.out 3).trans rfl, (kC BK340.out 4).trans rfl, (kC BK340.out 5).trans rfl, (kC BK340.out 6).trans rfl, (kC BK340.out 7).trans rfl, (kC BK340.out 8).trans rfl, (kC BK340.out 9).trans rfl, (kC BK340.out 10).trans rfl, (kC BK340.out 11).trans rfl, (kC BK340.out 12).trans rfl, (kC BK340.out 13).trans rfl, (kC BK340.out 14).trans rfl, (kC BK340.out 15).trans rfl⟩ (fun hHeld => ?_)
       clear hK K
       refine norm_ (a' := ?_) ?_ ?_
       rotate_left
       ·show Act.put _ (some 22) _ = _
        simp only [Act.put, List.setIfInBounds_toArray, List.set_cons_zero, List.set_cons_succ, i64_w, i32_w]
        rfl
       refine one_ (i := 4) (N := some 19) #[T,T,T,T,T,T,T,T,F,T,T,T,F,F,F] rfl rfl (one_of HT_.out (by kernel_rfl)) (by decide) (fun K hK => ?_)
       have hcv37 := own_string (P := Try.prog) Try.underlying34 Try.underlying5 Try.underlying9 (Kd.own_of_R HO344.out)
       refine value_ (w1 := ?_) (v := ?_) (by rfl) rfl ?_ ?_
       rotate_left 2
       ·go_simp
        constructor
        ·rfl
        ·rfl
       clear hcv37
       refine hK.out _ _ ⟨(kC BK323.out 0).trans rfl, (kC BK323.out 1).trans rfl, (kC BK323.out 2).trans rfl, (kC BK323.out 3).trans rfl, (kC BK323.out 4).trans rfl, (kC BK323.out 5).trans rfl, (kC BK323.out 6).trans rfl, (kC BK323.out 7).trans rfl, (kC BK323.out 8).trans rfl, (kC BK323.out 9).trans rfl, (kC BK323.out 10).trans rfl, (kC BK323.out 11).trans rfl, (kC BK323.out 12).trans rfl, (kC BK323.out 13).trans rfl, (kC BK323.out 14).trans rfl, (kC BK323.out 15).trans rfl, (kC BK340.out 0).trans rfl, (kC BK340.out 1).trans rfl, (kC BK340.out 2).trans rfl, (kC BK340.out 3).trans rfl, (kC BK340.out 4).trans rfl, (kC BK340.out 5).trans rfl, (kC BK340.out 6).trans rfl, (kC BK340.out 7).trans rfl, (kC BK340.out 8).trans rfl, (kC BK340.out 9).trans rfl, (kC BK340.out 10).trans rfl, (kC BK340.out 11).trans rfl, (kC BK340.out 12).trans rfl, (kC BK340.out 13).trans rfl, (kC BK340.out 14).trans rfl, (kC BK340.out 15).trans rfl⟩ (fun hHeld => ?_)
       clear hK K
       refine norm_ (a' := ?_) ?_ ?_
       rotate_left
       ·show Act.put _ (some 19) _ = _
        simp only [Act.put, List.setIfInBounds_toArray, List.set_cons_zero, List.set_cons_succ, i64_w, i32_w]
        rfl
       exact norm_ (by simp only [putAll, Act.put, List.setIfInBounds_toArray, List.set_cons_zero, List.set_cons_succ]) (hCont (v346) _ ⟨hHeld, (by (with_reducible repeat (first | apply Kd.R_alloc | apply Kd.R_drewN | apply Kd.R_drew)); exact Kd.R_mono HO344.out (fun _ hk => hk.2)), (by (with_reducible repeat (first | apply Kd.R_alloc | apply Kd.R_drewN | apply Kd.R_drew)); exact Kd.R_mono HO347.out (fun _ hk => hk.2)), (by (with_reducible repeat (first | refine kN ?_ _ | refine kD ?_ | refine kA ?_ _)); exact BK305.out), (by (with_reducible repeat (first | refine kN ?_ _ | refine kD ?_ | refine kA ?_ _)); exact BK306.out), (by (with_reducible repeat (first | refine kN ?_ _ | refine kD ?_ | refine kA ?_ _)); exact BK323.out), (by (with_reducible repeat (first | refine kN ?_ _ | refine kD ?_ | refine kA ?_ _)); exact BK340.out), (by repeat (first | (with_reducible first | exact HB.out | apply kL | apply kM | apply kE | refine kS ?_ GE305.out | refine kS ?_ GE306.out | refine kS ?_ GE323.out | refine kS ?_ GE340.out) | exact HB.out))⟩)
    rintro v346 w38 ⟨hS_, h0_, h1_, h2_, h3_, h4_, h5_, h6_⟩
    have n0_ : Aside0 (Kd.R (Kd.int .u8) 5 w38 w.heap.size (fun k_ => some k_ ≠ (v346 : Value).ownBlock) v343 t342) := ⟨h0_⟩
    have n1_ : Aside0 (Kd.R (Kd.int .u8) 5 w38 w.heap.size (fun k_ => some k_ ≠ (v343 : Value).ownBlock) v346 t345) := ⟨h1_⟩
    have n2_ : Aside0 (w38.heap[gb305]? = some (.cells #[.int .u8 a0_0, .int .i64 a0_1, .int .i64 a0_2, .int .i64 a0_3, .int .i64 a0_4, .int .u8 a0_5, .int .i64 a0_6, .int .i64 a0_7, .bool a0_8, .bool a0_9, .int .u8 a0_10, .int .i64 a0_11, .int .i64 a0_12, .int .i64 a0_13, .int .i64 a0_14, .int .u8 a0_15] 27 (0, 0))) := ⟨h2_⟩
    have n3_ : Aside0 (w38.heap[gb306]? = some (.cells #[.int .u8 a1_0, .int .i64 a1_1, .int .i64 a1_2, .int .i64 a1_3, .int .i64 a1_4, .int .u8 a1_5, .int .i64 a1_6, .int .i64 a1_7, .bool a1_8, .bool a1_9, .int .u8 a1_10, .int .i64 a1_11, .int .i64 a1_12, .int .i64 a1_13, .int .i64 a1_14, .int .u8 a1_15] 27 (0, 0))) := ⟨h3_⟩
    have n4_ : Aside0 (w38.heap[gb323]? = some (.cells #[.int .u8 t307, .int .i64 t308, .int .i64 t309, .int .i64 t310, .int .i64 t311, .int .u8 t312, .int .i64 t313, .int .i64 t314, .bool t315, .bool t316, .int .u8 t317, .int .i64 t318, .int .i64 t319, .int .i64 t320, .int .i64 t321, .int .u8 t322] 27 (0, 0))) := ⟨h4_⟩
    have n5_ : Aside0 (w38.heap[gb340]? = some (.cells #[.int .u8 t307, .int .i64 t308, .int .i64 t309, .int .i64 t310, .int .i64 t311, .int .u8 t312, .int .i64 t313, .int .i64 t314, .bool t315, .bool t316, .int .u8 t317, .int .i64 t318, .int .i64 t319, .int .i64 t320, .int .i64 t321, .int .u8 t322] 27 (0, 0))) := ⟨h5_⟩
    have n6_ : Aside0 (Below w.heap.size w w38) := ⟨h6_⟩
    clear BK305
    clear BK306
    clear BK323
    clear BK340
    clear HB
    clear h0_ h1_ h2_ h3_ h4_ h5_ h6_
    have HO344 := n0_
    have HO347 := n1_
    have BK305 := n2_
    have BK306 := n3_
    have BK323 := n4_
    have BK340 := n5_
    have HB := n6_
    clear n0_ n1_ n2_ n3_ n4_ n5_ n6_
    have hHeld : w38.cell? ⟨gb323, 0, none⟩ = some (.int .u8 t307) ∧ w38.cell? ⟨gb323, 1, none⟩ = some (.int .i64 t308) ∧ w38.cell? ⟨gb323, 2, none⟩ = some (.int .i64 t309) ∧ w38.cell? ⟨gb323, 3, none⟩ = some (.int .i64 t310) ∧ w38.cell? ⟨gb323, 4, none⟩ = some (.int .i64 t311) ∧ w38.cell? ⟨gb323, 5, none⟩ = some (.int .u8 t312) ∧ w38.cell? ⟨gb323, 6, none⟩ = some (.int .i64 t313) ∧ w38.cell? ⟨gb323, 7, none⟩ = some (.int .i64 t314) ∧ w38.cell? ⟨gb323, 8, none⟩ = some (.bool t315) ∧ w38.cell? ⟨gb323, 9, none⟩ = some (.bool t316) ∧ w38.cell? ⟨gb323, 10, none⟩ = some (.int .u8 t317) ∧ w38.cell? ⟨gb323, 11, none⟩ = some (.int .i64 t318) ∧ w38.cell? ⟨gb323, 12, none⟩ = some (.int .i64 t319) ∧ w38.cell? ⟨gb323, 13, none⟩ = some (.int .i64 t320) ∧ w38.cell? ⟨gb323, 14, none⟩ = some (.int .i64 t321) ∧ w38.cell? ⟨gb323, 15, none⟩ = some (.int .u8 t322) ∧ w38.cell? ⟨gb340, 0, none⟩ = some (.int .u8 t307) ∧ w38.cell? ⟨gb340, 1, none⟩ = some (.int .i64 t308) ∧ w38.cell? ⟨gb340, 2, none⟩ = some (.int .i64 t309) ∧ w38.cell? ⟨gb340, 3, none⟩ = some (.int .i64 t310) ∧ w38.cell? ⟨gb340, 4, none⟩ = some (.int .i64 t311) ∧ w38.cell? ⟨gb340, 5, none⟩ = some (.int .u8 t312) ∧ w38.cell? ⟨gb340, 6, none⟩ = some (.int .i64 t313) ∧ w38.cell? ⟨gb340, 7, none⟩ = some (.int .i64 t314) ∧ w38.cell? ⟨gb340, 8, none⟩ = some (.bool t315) ∧ w38.cell? ⟨gb340, 9, none⟩ = some (.bool t316) ∧ w38.cell? ⟨gb340, 10, none⟩ = some (.int .u8 t317) ∧ w38.cell? ⟨gb340, 11, none⟩ = some (.int .i64 t318) ∧ w38.cell? ⟨gb340, 12, none⟩ = some (.int .i64 t319) ∧ w38.cell? ⟨gb340, 13, none⟩ = some (.int .i64 t320) ∧ w38.cell? ⟨gb340, 14, none⟩ = some (.int .i64 t321) ∧ w38.cell? ⟨gb340, 15, none⟩ = some (.int .u8 t322) := hS_
    refine norm_ (a' := ?_) ?_ ?_
    rotate_left
    ·simp only [putAll, Act.put, List.setIfInBounds_toArray, List.set_cons_zero, List.set_cons_succ]
     rfl
    refine pure_ (i := 8) (N := some 23) (v := ?_) (a' := ?_) #[T,T,T,T,T,T,T,T,T,T,T,T,F,F,F] rfl rfl (any_of HT_.out (by kernel_rfl)) (fun _ _ _ h => h) (Or.inl ⟨by rfl, ?_⟩) ?_ ?_
    rotate_left
    ·intro w'
     go_simp
     with_reducible rfl
    rotate_left
    ·simp only [Act.put, List.setIfInBounds_toArray, List.set_cons_zero, List.set_cons_succ, i64_w, i32_w]
     rfl
    refine pure_ (i := 12) (N := some 27) (v := ?_) (a' := ?_) #[T,T,T,T,T,T,T,T,T,T,T,T,T,F,F] rfl rfl (any_of HT_.out (by kernel_rfl)) (fun _ _ _ h => h) (Or.inl ⟨by rfl, ?_⟩) ?_ ?_
    rotate_left
    ·intro w'
     go_simp
     with_reducible rfl
    rotate_left
    ·simp only [Act.put, List.setIfInBounds_toArray, List.set_cons_zero, List.set_cons_succ, i64_w, i32_w]
     rfl
    refine pure_ (i := 13) (N := some 28) (v := ?_) (a' := ?_) #[T,T,T,T,T,T,T,T,T,T,T,T,T,T,F] rfl rfl (any_of HT_.out (by kernel_rfl)) (fun _ _ _ h => h) (Or.inl ⟨by rfl, ?_⟩) ?_ ?_
    rotate_left
    ·intro w'
     go_simp
     with_reducible rfl
    rotate_left
    ·simp only [Act.put, List.setIfInBounds_toArray, List.set_cons_zero, List.set_cons_succ, i64_w, i32_w]
     rfl
    refine pure_ (i := 14) (N := some 6) (v := ?_) (a' := ?_) #[T,T,T,T,T,T,T,T,T,T,T,T,T,T,T] rfl rfl (any_of HT_.out (by kernel_rfl)) (fun _ _ _ h => h) (Or.inl ⟨by rfl, ?_⟩) ?_ ?_
    rotate_left
    ·intro w'
     go_simp
     with_reducible rfl
    rotate_left
    ·simp only [Act.put, List.setIfInBounds_toArray, List.set_cons_zero, List.set_cons_succ, i64_w, i32_w]
     rfl
    refine done_ (done_of HT_.out (by kernel_rfl)) ?_
    try go_wp2
    go_ret
    exact ⟨by first | rfl | (simp [errW_none, errW_some] <;> rfl) | (simp [*, errW_none, errW_some] <;> rfl), by repeat (first | (with_reducible first | exact HB.out | apply kL | apply kM | apply kE | refine kS ?_ GE305.out | refine kS ?_ GE306.out | refine kS ?_ GE323.out | refine kS ?_ GE340.out) | exact HB.out)⟩
  ·replace c8 := Bool.eq_false_iff.mpr c8
   subst c8
   have H1 : (some false) = some true := by rw [if_neg (show ¬ (false = true) by decide)] at H; try exact H
   clear H
   have H := H1
   clear H1
   exact absurd H (by simp)
 ·replace c6 := Bool.eq_false_iff.mpr c6
  subst c6
  have H1 : ((paybooklaw10_awake.f k).bind fun t348 => (if t348 = true then ((order_Encode.f k t307 t308 t309 t310 t311 t312 t313 t314 t315 t316 t317 t318 t319 t320 t321 t322).bind fun t349 => ((order_Encode.f k t324 t325 t326 t327 t328 t329 t330 t331 t332 t333 t334 t335 t336 t337 t338 t339).bind fun t352 => (some (((strOfNums t349).toList == (strOfNums t352).toList) == (t307 == t324 && (t308 == t325 && (t309 == t326 && (t310 == t327 && ((t311 == t328 && (t312 == t329 && (t313 == t330 && (t314 == t331 && (t315 == t332 && (t316 == t333)))))) && ((t317 == t334 && (t318 == t335 && (t319 == t336 && (t320 == t337 && (t321 == t338 && (t322 == t339)))))))))))))))) else (some false))) = some true := by rw [if_neg (show ¬ (false = true) by decide)] at H; try exact H
  clear H
  have H := H1
  clear H1
  replace H := Option.bind_eq_some_iff.mp H
  obtain ⟨t348, A390, H⟩ := H
  replace H : (if t348 = true then ((order_Encode.f k t307 t308 t309 t310 t311 t312 t313 t314 t315 t316 t317 t318 t319 t320 t321 t322).bind fun t349 => ((order_Encode.f k t324 t325 t326 t327 t328 t329 t330 t331 t332 t333 t334 t335 t336 t337 t338 t339).bind fun t352 => (some (((strOfNums t349).toList == (strOfNums t352).toList) == (t307 == t324 && (t308 == t325 && (t309 == t326 && (t310 == t327 && ((t311 == t328 && (t312 == t329 && (t313 == t330 && (t314 == t331 && (t315 == t332 && (t316 == t333)))))) && ((t317 == t334 && (t318 == t335 && (t319 == t336 && (t320 == t337 && (t321 == t338 && (t322 == t339)))))))))))))))) else (some false)) = some true := H
  have A39 := Aside0.mk A390
  clear A390
  by_cases c40 : t348 = true
  ·subst c40
   have H1 : ((order_Encode.f k t307 t308 t309 t310 t311 t312 t313 t314 t315 t316 t317 t318 t319 t320 t321 t322).bind fun t349 => ((order_Encode.f k t324 t325 t326 t327 t328 t329 t330 t331 t332 t333 t334 t335 t336 t337 t338 t339).bind fun t352 => (some (((strOfNums t349).toList == (strOfNums t352).toList) == (t307 == t324 && (t308 == t325 && (t309 == t326 && (t310 == t327 && ((t311 == t328 && (t312 == t329 && (t313 == t330 && (t314 == t331 && (t315 == t332 && (t316 == t333)))))) && ((t317 == t334 && (t318 == t335 && (t319 == t336 && (t320 == t337 && (t321 == t338 && (t322 == t339)))))))))))))))) = some true := by rw [if_pos rfl] at H; try exact H
   clear H
   have H := H1
   clear H1
   replace H := Option.bind_eq_some_iff.mp H
   obtain ⟨t349, A410, H⟩ := H
   replace H : ((order_Encode.f k t324 t325 t326 t327 t328 t329 t330 t331 t332 t333 t334 t335 t336 t337 t338 t339).bind fun t352 => (some (((strOfNums t349).toList == (strOfNums t352).toList) == (t307 == t324 && (t308 == t325 && (t309 == t326 && (t310 == t327 && ((t311 == t328 && (t312 == t329 && (t313 == t330 && (t314 == t331 && (t315 == t332 && (t316 == t333)))))) && ((t317 == t334 && (t318 == t335 && (t319 == t336 && (t320 == t337 && (t321 == t338 && (t322 == t339))))))))))))))) = some true := H
   have A41 := Aside0.mk A410
   clear A410
   replace H := Option.bind_eq_some_iff.mp H
   obtain ⟨t352, A420, H⟩ := H
   replace H : (some (((strOfNums t349).toList == (strOfNums t352).toList) == (t307 == t324 && (t308 == t325 && (t309 == t326 && (t310 == t327 && ((t311 == t328 && (t312 == t329 && (t313 == t330 && (t314 == t331 && (t315 == t332 && (t316 == t333)))))) && ((t317 == t334 && (t318 == t335 && (t319 == t336 && (t320 == t337 && (t321 == t338 && (t322 == t339)))))))))))))) = some true := H
   have A42 := Aside0.mk A420
   clear A420
   have HT_ := Option.some.inj H
   clear H
   (try (have HT_z_ := HT_; simp only [beq_true, beq_false, true_beq, false_beq, Bool.not_eq_true', Bool.not_eq_false', Bool.not_true, Bool.not_false] at HT_z_))
   as_aux_lemma =>
    go_enter Try.func4, Try.ntmps4
    try go_wp2_with (first | ((with_reducible refine gate_dst (N := 3) rfl ?_); refine box_event ?hg (N := 3) ?hd (cs := #[.int .u8 a0_0, .int .i64 a0_1, .int .i64 a0_2, .int .i64 a0_3, .int .i64 a0_4, .int .u8 a0_5, .int .i64 a0_6, .int .i64 a0_7, .bool a0_8, .bool a0_9, .int .u8 a0_10, .int .i64 a0_11, .int .i64 a0_12, .int .i64 a0_13, .int .i64 a0_14, .int .u8 a0_15]) (t := 27) ?hr ?_; (case hd => rfl); (case hg => rfl); (case hr => first | (go_simp; done) | (go_simp; rfl)); intro gb305 hg w43 hbox hb; have n0_ := Aside0.mk (below_step (by repeat (first | (with_reducible first | exact HB.out | apply kL | apply kM | apply kE) | exact HB.out)) hb); have n1_ := Aside0.mk (hbox); have n2_ := Aside0.mk ((by rw [hg]; exact (below_size (by repeat (first | (with_reducible first | exact HB.out | apply kL | apply kM | apply kE) | exact HB.out))) : w.heap.size ≤ gb305)); have n3_ := Aside0.mk ((by rw [hg]; exact (below_size (by repeat (first | (with_reducible first | exact HB.out | apply kL | apply kM | apply kE) | exact HB.out))) : w.heap.size ≤ gb305)); clear HB; have HB := n0_; have BK305 := n1_; have GW305 := n2_; have GE305 := n3_; clear n0_ n1_ n2_ n3_; clear hb hbox hg) | ((with_reducible refine gate_dst (N := 4) rfl ?_); refine box_event ?hg (N := 4) ?hd (cs := #[.int .u8 a1_0, .int .i64 a1_1, .int .i64 a1_2, .int .i64 a1_3, .int .i64 a1_4, .int .u8 a1_5, .int .i64 a1_6, .int .i64 a1_7, .bool a1_8, .bool a1_9, .int .u8 a1_10, .int .i64 a1_11, .int .i64 a1_12, .int .i64 a1_13, .int .i64 a1_14, .int .u8 a1_15]) (t := 27) ?hr ?_; (case hd => rfl); (case hg => rfl); (case hr => first | (go_simp; done) | (go_simp; rfl)); intro gb306 hg w44 hbox hb; have n0_ := Aside0.mk (blk_below (g := gb305) (o := .cells #[.int .u8 a0_0, .int .i64 a0_1, .int .i64 a0_2, .int .i64 a0_3, .int .i64 a0_4, .int .u8 a0_5, .int .i64 a0_6, .int .i64 a0_7, .bool a0_8, .bool a0_9, .int .u8 a0_10, .int .i64 a0_11, .int .i64 a0_12, .int .i64 a0_13, .int .i64 a0_14, .int .u8 a0_15] 27 (0, 0)) (by (with_reducible repeat (first | refine kN ?_ _ | refine kD ?_ | refine kA ?_ _)); exact BK305.out) hb); have n1_ := Aside0.mk (below_step (by repeat (first | (with_reducible first | exact HB.out | apply kL | apply kM | apply kE | refine kS ?_ GE305.out) | exact HB.out)) hb); have n2_ := Aside0.mk (hbox); have n3_ := Aside0.mk ((by rw [hg]; exact (below_size (by repeat (first | (with_reducible first | exact HB.out | apply kL | apply kM | apply kE | refine kS ?_ GE305.out) | exact HB.out))) : w.heap.size ≤ gb306)); have n4_ := Aside0.mk ((by rw [hg]; exact (below_size (by repeat (first | (with_reducible first | exact HB.out | apply kL | apply kM | apply kE | refine kS ?_ GE305.out) | exact HB.out))) : w.heap.size ≤ gb306)); have n5_ := Aside0.mk ((by rw [hg]; exact Nat.ne_of_lt (blk_lt (g := gb305) (o := .cells #[.int .u8 a0_0, .int .i64 a0_1, .int .i64 a0_2, .int .i64 a0_3, .int .i64 a0_4, .int .u8 a0_5, .int .i64 a0_6, .int .i64 a0_7, .bool a0_8, .bool a0_9, .int .u8 a0_10, .int .i64 a0_11, .int .i64 a0_12, .int .i64 a0_13, .int .i64 a0_14, .int .u8 a0_15] 27 (0, 0)) (by (with_reducible repeat (first | refine kN ?_ _ | refine kD ?_ | refine kA ?_ _)); exact BK305.out)) : gb305 ≠ gb306)); have n6_ := Aside0.mk ((by rw [hg]; exact Nat.ne_of_gt (blk_lt (g := gb305) (o := .cells #[.int .u8 a0_0, .int .i64 a0_1, .int .i64 a0_2, .int .i64 a0_3, .int .i64 a0_4, .int .u8 a0_5, .int .i64 a0_6, .int .i64 a0_7, .bool a0_8, .bool a0_9, .int .u8 a0_10, .int .i64 a0_11, .int .i64 a0_12, .int .i64 a0_13, .int .i64 a0_14, .int .u8 a0_15] 27 (0, 0)) (by (with_reducible repeat (first | refine kN ?_ _ | refine kD ?_ | refine kA ?_ _)); exact BK305.out)) : gb306 ≠ gb305)); clear BK305; clear HB; have BK305 := n0_; have HB := n1_; have BK306 := n2_; have GW306 := n3_; have GE306 := n4_; have NB305_306 := n5_; have NB306_305 := n6_; clear n0_ n1_ n2_ n3_ n4_ n5_ n6_; clear hb hbox hg; have hnb45 := NB305_306.out; have hnc45 := NB306_305.out; obtain ⟨hcz46_0, hcz46_1, hcz46_2, hcz46_3, hcz46_4, hcz46_5, hcz46_6, hcz46_7, hcz46_8, hcz46_9, hcz46_10, hcz46_11, hcz46_12, hcz46_13, hcz46_14, hcz46_15, hfz46_0, hfz46_1, hfz46_2, hfz46_3, hfz46_4, hfz46_5, hfz46_6, hfz46_7, hfz46_8, hfz46_9, hfz46_10, hfz46_11, hfz46_12, hfz46_13, hfz46_14, hfz46_15⟩ := bxc16 BK305.out) | ((with_reducible refine gate_dst (N := 9) rfl ?_); refine wpList_load_row rfl 27 (.tmp 3) rfl gb305 rfl 27 #[.int .u8 a0_0, .int .i64 a0_1, .int .i64 a0_2, .int .i64 a0_3, .int .i64 a0_4, .int .u8 a0_5, .int .i64 a0_6, .int .i64 a0_7, .bool a0_8, .bool a0_9, .int .u8 a0_10, .int .i64 a0_11, .int .i64 a0_12, .int .i64 a0_13, .int .i64 a0_14, .int .u8 a0_15] (0, 0) _ (by (with_reducible repeat (first | refine kN ?_ _ | refine kD ?_ | refine kA ?_ _)); exact BK305.out) Try.underlying27 rfl (by kernel_rfl) ?_) | ((with_reducible refine gate_callee (f := 9) rfl ?_); refine goesL_ (some 10) rfl rfl Try.func9 (by kernel_rfl) rfl #[.agg #[.int .u8 a0_0, .int .i64 a0_1, .int .i64 a0_2, .int .i64 a0_3, .int .i64 a0_4, .int .u8 a0_5, .int .i64 a0_6, .int .i64 a0_7, .bool a0_8, .bool a0_9, .int .u8 a0_10, .int .i64 a0_11, .int .i64 a0_12, .int .i64 a0_13, .int .i64 a0_14, .int .u8 a0_15]] rfl (by (try simp only [List.map_toArray, List.map_cons, List.map_nil]); first | done | rfl | (simp only [List.length_drop, List.length_take]; rfl)) ?_; (with_reducible refine (paybooklaw10_near.calls k a0_0 a0_1 a0_2 a0_3 a0_4 a0_5 a0_6 a0_7 a0_8 a0_9 a0_10 a0_11 a0_12 a0_13 a0_14 a0_15 t307 t308 t309 t310 t311 t312 t313 t314 t315 t316 t317 t318 t319 t320 t321 t322 _ A4.out).mono ?_); rintro e w47 ⟨rfl, hb⟩; refine ⟨_, rfl, ?_⟩; have n0_ := Aside0.mk (blk_below (g := gb305) (o := .cells #[.int .u8 a0_0, .int .i64 a0_1, .int .i64 a0_2, .int .i64 a0_3, .int .i64 a0_4, .int .u8 a0_5, .int .i64 a0_6, .int .i64 a0_7, .bool a0_8, .bool a0_9, .int .u8 a0_10, .int .i64 a0_11, .int .i64 a0_12, .int .i64 a0_13, .int .i64 a0_14, .int .u8 a0_15] 27 (0, 0)) (by (with_reducible repeat (first | refine kN ?_ _ | refine kD ?_ | refine kA ?_ _)); exact BK305.out) hb); have n1_ := Aside0.mk (blk_below (g := gb306) (o := .cells #[.int .u8 a1_0, .int .i64 a1_1, .int .i64 a1_2, .int .i64 a1_3, .int .i64 a1_4, .int .u8 a1_5, .int .i64 a1_6, .int .i64 a1_7, .bool a1_8, .bool a1_9, .int .u8 a1_10, .int .i64 a1_11, .int .i64 a1_12, .int .i64 a1_13, .int .i64 a1_14, .int .u8 a1_15] 27 (0, 0)) (by (with_reducible repeat (first | refine kN ?_ _ | refine kD ?_ | refine kA ?_ _)); exact BK306.out) hb); have n2_ := Aside0.mk (below_step (by repeat (first | (with_reducible first | exact HB.out | apply kL | apply kM | apply kE | refine kS ?_ GE305.out | refine kS ?_ GE306.out) | exact HB.out)) hb); clear BK305; clear BK306; clear HB; have BK305 := n0_; have BK306 := n1_; have HB := n2_; clear n0_ n1_ n2_; (try clear hb); (try clear hb2); (try clear hk); (try clear hi)) | ((with_reducible refine gate_dst (N := 7) rfl ?_); refine box_event ?hg (N := 7) ?hd (cs := #[.int .u8 0, .int .i64 0, .int .i64 0, .int .i64 0, .int .i64 0, .int .u8 0, .int .i64 0, .int .i64 0, .bool false, .bool false, .int .u8 0, .int .i64 0, .int .i64 0, .int .i64 0, .int .i64 0, .int .u8 0]) (t := 27) ?hr ?_; (case hd => rfl); (case hg => rfl); (case hr => first | (go_simp; done) | (go_simp; rfl)); intro gb323 hg w48 hbox hb; have n0_ := Aside0.mk (blk_below (g := gb305) (o := .cells #[.int .u8 a0_0, .int .i64 a0_1, .int .i64 a0_2, .int .i64 a0_3, .int .i64 a0_4, .int .u8 a0_5, .int .i64 a0_6, .int .i64 a0_7, .bool a0_8, .bool a0_9, .int .u8 a0_10, .int .i64 a0_11, .int .i64 a0_12, .int .i64 a0_13, .int .i64 a0_14, .int .u8 a0_15] 27 (0, 0)) (by (with_reducible repeat (first | refine kN ?_ _ | refine kD ?_ | refine kA ?_ _)); exact BK305.out) hb); have n1_ := Aside0.mk (blk_below (g := gb306) (o := .cells #[.int .u8 a1_0, .int .i64 a1_1, .int .i64 a1_2, .int .i64 a1_3, .int .i64 a1_4, .int .u8 a1_5, .int .i64 a1_6, .int .i64 a1_7, .bool a1_8, .bool a1_9, .int .u8 a1_10, .int .i64 a1_11, .int .i64 a1_12, .int .i64 a1_13, .int .i64 a1_14, .int .u8 a1_15] 27 (0, 0)) (by (with_reducible repeat (first | refine kN ?_ _ | refine kD ?_ | refine kA ?_ _)); exact BK306.out) hb); have n2_ := Aside0.mk (below_step (by repeat (first | (with_reducible first | exact HB.out | apply kL | apply kM | apply kE | refine kS ?_ GE305.out | refine kS ?_ GE306.out) | exact HB.out)) hb); have n3_ := Aside0.mk (hbox); have n4_ := Aside0.mk ((by rw [hg]; exact (below_size (by repeat (first | (with_reducible first | exact HB.out | apply kL | apply kM | apply kE | refine kS ?_ GE305.out | refine kS ?_ GE306.out) | exact HB.out))) : w.heap.size ≤ gb323)); have n5_ := Aside0.mk ((by rw [hg]; exact (below_size (by repeat (first | (with_reducible first | exact HB.out | apply kL | apply kM | apply kE | refine kS ?_ GE305.out | refine kS ?_ GE306.out) | exact HB.out))) : w.heap.size ≤ gb323)); have n6_ := Aside0.mk ((by rw [hg]; exact Nat.ne_of_lt (blk_lt (g := gb305) (o := .cells #[.int .u8 a0_0, .int .i64 a0_1, .int .i64 a0_2, .int .i64 a0_3, .int .i64 a0_4, .int .u8 a0_5, .int .i64 a0_6, .int .i64 a0_7, .bool a0_8, .bool a0_9, .int .u8 a0_10, .int .i64 a0_11, .int .i64 a0_12, .int .i64 a0_13, .int .i64 a0_14, .int .u8 a0_15] 27 (0, 0)) (by (with_reducible repeat (first | refine kN ?_ _ | refine kD ?_ | refine kA ?_ _)); exact BK305.out)) : gb305 ≠ gb323)); have n7_ := Aside0.mk ((by rw [hg]; exact Nat.ne_of_gt (blk_lt (g := gb305) (o := .cells #[.int .u8 a0_0, .int .i64 a0_1, .int .i64 a0_2, .int .i64 a0_3, .int .i64 a0_4, .int .u8 a0_5, .int .i64 a0_6, .int .i64 a0_7, .bool a0_8, .bool a0_9, .int .u8 a0_10, .int .i64 a0_11, .int .i64 a0_12, .int .i64 a0_13, .int .i64 a0_14, .int .u8 a0_15] 27 (0, 0)) (by (with_reducible repeat (first | refine kN ?_ _ | refine kD ?_ | refine kA ?_ _)); exact BK305.out)) : gb323 ≠ gb305)); have n8_ := Aside0.mk ((by rw [hg]; exact Nat.ne_of_lt (blk_lt (g := gb306) (o := .cells #[.int .u8 a1_0, .int .i64 a1_1, .int .i64 a1_2, .int .i64 a1_3, .int .i64 a1_4, .int .u8 a1_5, .int .i64 a1_6, .int .i64 a1_7, .bool a1_8, .bool a1_9, .int .u8 a1_10, .int .i64 a1_11, .int .i64 a1_12, .int .i64 a1_13, .int .i64 a1_14, .int .u8 a1_15] 27 (0, 0)) (by (with_reducible repeat (first | refine kN ?_ _ | refine kD ?_ | refine kA ?_ _)); exact BK306.out)) : gb306 ≠ gb323)); have n9_ := Aside0.mk ((by rw [hg]; exact Nat.ne_of_gt (blk_lt (g := gb306) (o := .cells #[.int .u8 a1_0, .int .i64 a1_1, .int .i64 a1_2, .int .i64 a1_3, .int .i64 a1_4, .int .u8 a1_5, .int .i64 a1_6, .int .i64 a1_7, .bool a1_8, .bool a1_9, .int .u8 a1_10, .int .i64 a1_11, .int .i64 a1_12, .int .i64 a1_13, .int .i64 a1_14, .int .u8 a1_15] 27 (0, 0)) (by (with_reducible repeat (first | refine kN ?_ _ | refine kD ?_ | refine kA ?_ _)); exact BK306.out)) : gb323 ≠ gb306)); clear BK305; clear BK306; clear HB; have BK305 := n0_; have BK306 := n1_; have HB := n2_; have BK323 := n3_; have GW323 := n4_; have GE323 := n5_; have NB305_323 := n6_; have NB323_305 := n7_; have NB306_323 := n8_; have NB323_306 := n9_; clear n0_ n1_ n2_ n3_ n4_ n5_ n6_ n7_ n8_ n9_; clear hb hbox hg; have hnb49 := NB323_305.out; have hnc49 := NB305_323.out; have hnb50 := NB323_306.out; have hnc50 := NB306_323.out; obtain ⟨hcz51_0, hcz51_1, hcz51_2, hcz51_3, hcz51_4, hcz51_5, hcz51_6, hcz51_7, hcz51_8, hcz51_9, hcz51_10, hcz51_11, hcz51_12, hcz51_13, hcz51_14, hcz51_15, hfz51_0, hfz51_1, hfz51_2, hfz51_3, hfz51_4, hfz51_5, hfz51_6, hfz51_7, hfz51_8, hfz51_9, hfz51_10, hfz51_11, hfz51_12, hfz51_13, hfz51_14, hfz51_15⟩ := bxc16 BK323.out) | ((with_reducible refine gate_store (t := 27) (p := 7) rfl ?_); refine rec_event (t := 27) (p := 7) (v := ?vo_w52) (g := gb323) (t' := 27) #[.int .u8 0, .int .i64 0, .int .i64 0, .int .i64 0, .int .i64 0, .int .u8 0, .int .i64 0, .int .i64 0, .bool false, .bool false, .int .u8 0, .int .i64 0, .int .i64 0, .int .i64 0, .int .i64 0, .int .u8 0] #[.int .u8 t307, .int .i64 t308, .int .i64 t309, .int .i64 t310, .int .i64 t311, .int .u8 t312, .int .i64 t313, .int .i64 t314, .bool t315, .bool t316, .int .u8 t317, .int .i64 t318, .int .i64 t319, .int .i64 t320, .int .i64 t321, .int .u8 t322] ?hg ?ho ?hn ?hx ?hy ?hb (by rfl) (by kernel_rfl) (by kernel_rfl) ?_; (case ho => rfl); (case hg => rfl); (case hn => rfl); (case hx => rfl); (case hy => rfl); (case hb => exact BK323.out); intro w52 hblk hoth hbel; have n0_ : Aside0 (w52.heap[gb305]? = some (.cells #[.int .u8 a0_0, .int .i64 a0_1, .int .i64 a0_2, .int .i64 a0_3, .int .i64 a0_4, .int .u8 a0_5, .int .i64 a0_6, .int .i64 a0_7, .bool a0_8, .bool a0_9, .int .u8 a0_10, .int .i64 a0_11, .int .i64 a0_12, .int .i64 a0_13, .int .i64 a0_14, .int .u8 a0_15] 27 (0, 0))) := ⟨(hoth gb305 NB305_323.out).trans (by (with_reducible repeat (first | refine kN ?_ _ | refine kD ?_ | refine kA ?_ _)); exact BK305.out)⟩; have n1_ : Aside0 (w52.heap[gb306]? = some (.cells #[.int .u8 a1_0, .int .i64 a1_1, .int .i64 a1_2, .int .i64 a1_3, .int .i64 a1_4, .int .u8 a1_5, .int .i64 a1_6, .int .i64 a1_7, .bool a1_8, .bool a1_9, .int .u8 a1_10, .int .i64 a1_11, .int .i64 a1_12, .int .i64 a1_13, .int .i64 a1_14, .int .u8 a1_15] 27 (0, 0))) := ⟨(hoth gb306 NB306_323.out).trans (by (with_reducible repeat (first | refine kN ?_ _ | refine kD ?_ | refine kA ?_ _)); exact BK306.out)⟩; have n2_ : Aside0 (w52.heap[gb323]? = some (.cells #[.int .u8 t307, .int .i64 t308, .int .i64 t309, .int .i64 t310, .int .i64 t311, .int .u8 t312, .int .i64 t313, .int .i64 t314, .bool t315, .bool t316, .int .u8 t317, .int .i64 t318, .int .i64 t319, .int .i64 t320, .int .i64 t321, .int .u8 t322] 27 (0, 0))) := ⟨hblk⟩; have n3_ : Aside0 (Below w.heap.size w w52) := ⟨Below.trans (by repeat (first | (with_reducible first | exact HB.out | apply kL | apply kM | apply kE | refine kS ?_ GE305.out | refine kS ?_ GE306.out | refine kS ?_ GE323.out) | exact HB.out)) (hbel _ GE323.out)⟩; clear hblk hoth hbel; clear BK305; clear BK306; clear BK323; clear HB; have BK305 := n0_; have BK306 := n1_; have BK323 := n2_; have HB := n3_; clear n0_ n1_ n2_ n3_; obtain ⟨hcz53_0, hcz53_1, hcz53_2, hcz53_3, hcz53_4, hcz53_5, hcz53_6, hcz53_7, hcz53_8, hcz53_9, hcz53_10, hcz53_11, hcz53_12, hcz53_13, hcz53_14, hcz53_15, hfz53_0, hfz53_1, hfz53_2, hfz53_3, hfz53_4, hfz53_5, hfz53_6, hfz53_7, hfz53_8, hfz53_9, hfz53_10, hfz53_11, hfz53_12, hfz53_13, hfz53_14, hfz53_15⟩ := bxc16 BK306.out) | ((with_reducible refine gate_dst (N := 11) rfl ?_); refine wpList_load_row rfl 27 (.tmp 4) rfl gb306 rfl 27 #[.int .u8 a1_0, .int .i64 a1_1, .int .i64 a1_2, .int .i64 a1_3, .int .i64 a1_4, .int .u8 a1_5, .int .i64 a1_6, .int .i64 a1_7, .bool a1_8, .bool a1_9, .int .u8 a1_10, .int .i64 a1_11, .int .i64 a1_12, .int .i64 a1_13, .int .i64 a1_14, .int .u8 a1_15] (0, 0) _ (by (with_reducible repeat (first | refine kN ?_ _ | refine kD ?_ | refine kA ?_ _)); exact BK306.out) Try.underlying27 rfl (by kernel_rfl) ?_) | ((with_reducible refine gate_callee (f := 9) rfl ?_); refine goesL_ (some 12) rfl rfl Try.func9 (by kernel_rfl) rfl #[.agg #[.int .u8 a1_0, .int .i64 a1_1, .int .i64 a1_2, .int .i64 a1_3, .int .i64 a1_4, .int .u8 a1_5, .int .i64 a1_6, .int .i64 a1_7, .bool a1_8, .bool a1_9, .int .u8 a1_10, .int .i64 a1_11, .int .i64 a1_12, .int .i64 a1_13, .int .i64 a1_14, .int .u8 a1_15]] rfl (by (try simp only [List.map_toArray, List.map_cons, List.map_nil]); first | done | rfl | (simp only [List.length_drop, List.length_take]; rfl)) ?_; (with_reducible refine (paybooklaw10_near.calls k a1_0 a1_1 a1_2 a1_3 a1_4 a1_5 a1_6 a1_7 a1_8 a1_9 a1_10 a1_11 a1_12 a1_13 a1_14 a1_15 t324 t325 t326 t327 t328 t329 t330 t331 t332 t333 t334 t335 t336 t337 t338 t339 _ A5.out).mono ?_); rintro e w54 ⟨rfl, hb⟩; refine ⟨_, rfl, ?_⟩; have n0_ := Aside0.mk (blk_below (g := gb305) (o := .cells #[.int .u8 a0_0, .int .i64 a0_1, .int .i64 a0_2, .int .i64 a0_3, .int .i64 a0_4, .int .u8 a0_5, .int .i64 a0_6, .int .i64 a0_7, .bool a0_8, .bool a0_9, .int .u8 a0_10, .int .i64 a0_11, .int .i64 a0_12, .int .i64 a0_13, .int .i64 a0_14, .int .u8 a0_15] 27 (0, 0)) (by (with_reducible repeat (first | refine kN ?_ _ | refine kD ?_ | refine kA ?_ _)); exact BK305.out) hb); have n1_ := Aside0.mk (blk_below (g := gb306) (o := .cells #[.int .u8 a1_0, .int .i64 a1_1, .int .i64 a1_2, .int .i64 a1_3, .int .i64 a1_4, .int .u8 a1_5, .int .i64 a1_6, .int .i64 a1_7, .bool a1_8, .bool a1_9, .int .u8 a1_10, .int .i64 a1_11, .int .i64 a1_12, .int .i64 a1_13, .int .i64 a1_14, .int .u8 a1_15] 27 (0, 0)) (by (with_reducible repeat (first | refine kN ?_ _ | refine kD ?_ | refine kA ?_ _)); exact BK306.out) hb); have n2_ := Aside0.mk (blk_below (g := gb323) (o := .cells #[.int .u8 t307, .int .i64 t308, .int .i64 t309, .int .i64 t310, .int .i64 t311, .int .u8 t312, .int .i64 t313, .int .i64 t314, .bool t315, .bool t316, .int .u8 t317, .int .i64 t318, .int .i64 t319, .int .i64 t320, .int .i64 t321, .int .u8 t322] 27 (0, 0)) (by (with_reducible repeat (first | refine kN ?_ _ | refine kD ?_ | refine kA ?_ _)); exact BK323.out) hb); have n3_ := Aside0.mk (below_step (by repeat (first | (with_reducible first | exact HB.out | apply kL | apply kM | apply kE | refine kS ?_ GE305.out | refine kS ?_ GE306.out | refine kS ?_ GE323.out) | exact HB.out)) hb); clear BK305; clear BK306; clear BK323; clear HB; have BK305 := n0_; have BK306 := n1_; have BK323 := n2_; have HB := n3_; clear n0_ n1_ n2_ n3_; (try clear hb); (try clear hb2); (try clear hk); (try clear hi)) | ((with_reducible refine gate_dst (N := 8) rfl ?_); refine box_event ?hg (N := 8) ?hd (cs := #[.int .u8 0, .int .i64 0, .int .i64 0, .int .i64 0, .int .i64 0, .int .u8 0, .int .i64 0, .int .i64 0, .bool false, .bool false, .int .u8 0, .int .i64 0, .int .i64 0, .int .i64 0, .int .i64 0, .int .u8 0]) (t := 27) ?hr ?_; (case hd => rfl); (case hg => rfl); (case hr => first | (go_simp; done) | (go_simp; rfl)); intro gb340 hg w55 hbox hb; have n0_ := Aside0.mk (blk_below (g := gb305) (o := .cells #[.int .u8 a0_0, .int .i64 a0_1, .int .i64 a0_2, .int .i64 a0_3, .int .i64 a0_4, .int .u8 a0_5, .int .i64 a0_6, .int .i64 a0_7, .bool a0_8, .bool a0_9, .int .u8 a0_10, .int .i64 a0_11, .int .i64 a0_12, .int .i64 a0_13, .int .i64 a0_14, .int .u8 a0_15] 27 (0, 0)) (by (with_reducible repeat (first | refine kN ?_ _ | refine kD ?_ | refine kA ?_ _)); exact BK305.out) hb); have n1_ := Aside0.mk (blk_below (g := gb306) (o := .cells #[.int .u8 a1_0, .int .i64 a1_1, .int .i64 a1_2, .int .i64 a1_3, .int .i64 a1_4, .int .u8 a1_5, .int .i64 a1_6, .int .i64 a1_7, .bool a1_8, .bool a1_9, .int .u8 a1_10, .int .i64 a1_11, .int .i64 a1_12, .int .i64 a1_13, .int .i64 a1_14, .int .u8 a1_15] 27 (0, 0)) (by (with_reducible repeat (first | refine kN ?_ _ | refine kD ?_ | refine kA ?_ _)); exact BK306.out) hb); have n2_ := Aside0.mk (blk_below (g := gb323) (o := .cells #[.int .u8 t307, .int .i64 t308, .int .i64 t309, .int .i64 t310, .int .i64 t311, .int .u8 t312, .int .i64 t313, .int .i64 t314, .bool t315, .bool t316, .int .u8 t317, .int .i64 t318, .int .i64 t319, .int .i64 t320, .int .i64 t321, .int .u8 t322] 27 (0, 0)) (by (with_reducible repeat (first | refine kN ?_ _ | refine kD ?_ | refine kA ?_ _)); exact BK323.out) hb); have n3_ := Aside0.mk (below_step (by repeat (first | (with_reducible first | exact HB.out | apply kL | apply kM | apply kE | refine kS ?_ GE305.out | refine kS ?_ GE306.out | refine kS ?_ GE323.out) | exact HB.out)) hb); have n4_ := Aside0.mk (hbox); have n5_ := Aside0.mk ((by rw [hg]; exact (below_size (by repeat (first | (with_reducible first | exact HB.out | apply kL | apply kM | apply kE | refine kS ?_ GE305.out | refine kS ?_ GE306.out | refine kS ?_ GE323.out) | exact HB.out))) : w.heap.size ≤ gb340)); have n6_ := Aside0.mk ((by rw [hg]; exact (below_size (by repeat (first | (with_reducible first | exact HB.out | apply kL | apply kM | apply kE | refine kS ?_ GE305.out | refine kS ?_ GE306.out | refine kS ?_ GE323.out) | exact HB.out))) : w.heap.size ≤ gb340)); have n7_ := Aside0.mk ((by rw [hg]; exact Nat.ne_of_lt (blk_lt (g := gb305) (o := .cells #[.int .u8 a0_0, .int .i64 a0_1, .int .i64 a0_2, .int .i64 a0_3, .int .i64 a0_4, .int .u8 a0_5, .int .i64 a0_6, .int .i64 a0_7, .bool a0_8, .bool a0_9, .int .u8 a0_10, .int .i64 a0_11, .int .i64 a0_12, .int .i64 a0_13, .int .i64 a0_14, .int .u8 a0_15] 27 (0, 0)) (by (with_reducible repeat (first | refine kN ?_ _ | refine kD ?_ | refine kA ?_ _)); exact BK305.out)) : gb305 ≠ gb340)); have n8_ := Aside0.mk ((by rw [hg]; exact Nat.ne_of_gt (blk_lt (g := gb305) (o := .cells #[.int .u8 a0_0, .int .i64 a0_1, .int .i64 a0_2, .int .i64 a0_3, .int .i64 a0_4, .int .u8 a0_5, .int .i64 a0_6, .int .i64 a0_7, .bool a0_8, .bool a0_9, .int .u8 a0_10, .int .i64 a0_11, .int .i64 a0_12, .int .i64 a0_13, .int .i64 a0_14, .int .u8 a0_15] 27 (0, 0)) (by (with_reducible repeat (first | refine kN ?_ _ | refine kD ?_ | refine kA ?_ _)); exact BK305.out)) : gb340 ≠ gb305)); have n9_ := Aside0.mk ((by rw [hg]; exact Nat.ne_of_lt (blk_lt (g := gb306) (o := .cells #[.int .u8 a1_0, .int .i64 a1_1, .int .i64 a1_2, .int .i64 a1_3, .int .i64 a1_4, .int .u8 a1_5, .int .i64 a1_6, .int .i64 a1_7, .bool a1_8, .bool a1_9, .int .u8 a1_10, .int .i64 a1_11, .int .i64 a1_12, .int .i64 a1_13, .int .i64 a1_14, .int .u8 a1_15] 27 (0, 0)) (by (with_reducible repeat (first | refine kN ?_ _ | refine kD ?_ | refine kA ?_ _)); exact BK306.out)) : gb306 ≠ gb340)); have n10_ := Aside0.mk ((by rw [hg]; exact Nat.ne_of_gt (blk_lt (g := gb306) (o := .cells #[.int .u8 a1_0, .int .i64 a1_1, .int .i64 a1_2, .int .i64 a1_3, .int .i64 a1_4, .int .u8 a1_5, .int .i64 a1_6, .int .i64 a1_7, .bool a1_8, .bool a1_9, .int .u8 a1_10, .int .i64 a1_11, .int .i64 a1_12, .int .i64 a1_13, .int .i64 a1_14, .int .u8 a1_15] 27 (0, 0)) (by (with_reducible repeat (first | refine kN ?_ _ | refine kD ?_ | refine kA ?_ _)); exact BK306.out)) : gb340 ≠ gb306)); have n11_ := Aside0.mk ((by rw [hg]; exact Nat.ne_of_lt (blk_lt (g := gb323) (o := .cells #[.int .u8 t307, .int .i64 t308, .int .i64 t309, .int .i64 t310, .int .i64 t311, .int .u8 t312, .int .i64 t313, .int .i64 t314, .bool t315, .bool t316, .int .u8 t317, .int .i64 t318, .int .i64 t319, .int .i64 t320, .int .i64 t321, .int .u8 t322] 27 (0, 0)) (by (with_reducible repeat (first | refine kN ?_ _ | refine kD ?_ | refine kA ?_ _)); exact BK323.out)) : gb323 ≠ gb340)); have n12_ := Aside0.mk ((by rw [hg]; exact Nat.ne_of_gt (blk_lt (g := gb323) (o := .cells #[.int .u8 t307, .int .i64 t308, .int .i64 t309, .int .i64 t310, .int .i64 t311, .int .u8 t312, .int .i64 t313, .int .i64 t314, .bool t315, .bool t316, .int .u8 t317, .int .i64 t318, .int .i64 t319, .int .i64 t320, .int .i64 t321, .int .u8 t322] 27 (0, 0)) (by (with_reducible repeat (first | refine kN ?_ _ | refine kD ?_ | refine kA ?_ _)); exact BK323.out)) : gb340 ≠ gb323)); clear BK305; clear BK306; clear BK323; clear HB; have BK305 := n0_; have BK306 := n1_; have BK323 := n2_; have HB := n3_; have BK340 := n4_; have GW340 := n5_; have GE340 := n6_; have NB305_340 := n7_; have NB340_305 := n8_; have NB306_340 := n9_; have NB340_306 := n10_; have NB323_340 := n11_; have NB340_323 := n12_; clear n0_ n1_ n2_ n3_ n4_ n5_ n6_ n7_ n8_ n9_ n10_ n11_ n12_; clear hb hbox hg; have hnb56 := NB340_305.out; have hnc56 := NB305_340.out; have hnb57 := NB340_306.out; have hnc57 := NB306_340.out; have hnb58 := NB340_323.out; have hnc58 := NB323_340.out; obtain ⟨hcz59_0, hcz59_1, hcz59_2, hcz59_3, hcz59_4, hcz59_5, hcz59_6, hcz59_7, hcz59_8, hcz59_9, hcz59_10, hcz59_11, hcz59_12, hcz59_13, hcz59_14, hcz59_15, hfz59_0, hfz59_1, hfz59_2, hfz59_3, hfz59_4, hfz59_5, hfz59_6, hfz59_7, hfz59_8, hfz59_9, hfz59_10, hfz59_11, hfz59_12, hfz59_13, hfz59_14, hfz59_15⟩ := bxc16 BK340.out) | ((with_reducible refine gate_store (t := 27) (p := 8) rfl ?_); refine rec_event (t := 27) (p := 8) (v := ?vo_w60) (g := gb340) (t' := 27) #[.int .u8 0, .int .i64 0, .int .i64 0, .int .i64 0, .int .i64 0, .int .u8 0, .int .i64 0, .int .i64 0, .bool false, .bool false, .int .u8 0, .int .i64 0, .int .i64 0, .int .i64 0, .int .i64 0, .int .u8 0] #[.int .u8 t324, .int .i64 t325, .int .i64 t326, .int .i64 t327, .int .i64 t328, .int .u8 t329, .int .i64 t330, .int .i64 t331, .bool t332, .bool t333, .int .u8 t334, .int .i64 t335, .int .i64 t336, .int .i64 t337, .int .i64 t338, .int .u8 t339] ?hg ?ho ?hn ?hx ?hy ?hb (by rfl) (by kernel_rfl) (by kernel_rfl) ?_; (case ho => rfl); (case hg => rfl); (case hn => rfl); (case hx => rfl); (case hy => rfl); (case hb => exact BK340.out); intro w60 hblk hoth hbel; have n0_ : Aside0 (w60.heap[gb305]? = some (.cells #[.int .u8 a0_0, .int .i64 a0_1, .int .i64 a0_2, .int .i64 a0_3, .int .i64 a0_4, .int .u8 a0_5, .int .i64 a0_6, .int .i64 a0_7, .bool a0_8, .bool a0_9, .int .u8 a0_10, .int .i64 a0_11, .int .i64 a0_12, .int .i64 a0_13, .int .i64 a0_14, .int .u8 a0_15] 27 (0, 0))) := ⟨(hoth gb305 NB305_340.out).trans (by (with_reducible repeat (first | refine kN ?_ _ | refine kD ?_ | refine kA ?_ _)); exact BK305.out)⟩; have n1_ : Aside0 (w60.heap[gb306]? = some (.cells #[.int .u8 a1_0, .int .i64 a1_1, .int .i64 a1_2, .int .i64 a1_3, .int .i64 a1_4, .int .u8 a1_5, .int .i64 a1_6, .int .i64 a1_7, .bool a1_8, .bool a1_9, .int .u8 a1_10, .int .i64 a1_11, .int .i64 a1_12, .int .i64 a1_13, .int .i64 a1_14, .int .u8 a1_15] 27 (0, 0))) := ⟨(hoth gb306 NB306_340.out).trans (by (with_reducible repeat (first | refine kN ?_ _ | refine kD ?_ | refine kA ?_ _)); exact BK306.out)⟩; have n2_ : Aside0 (w60.heap[gb323]? = some (.cells #[.int .u8 t307, .int .i64 t308, .int .i64 t309, .int .i64 t310, .int .i64 t311, .int .u8 t312, .int .i64 t313, .int .i64 t314, .bool t315, .bool t316, .int .u8 t317, .int .i64 t318, .int .i64 t319, .int .i64 t320, .int .i64 t321, .int .u8 t322] 27 (0, 0))) := ⟨(hoth gb323 NB323_340.out).trans (by (with_reducible repeat (first | refine kN ?_ _ | refine kD ?_ | refine kA ?_ _)); exact BK323.out)⟩; have n3_ : Aside0 (w60.heap[gb340]? = some (.cells #[.int .u8 t324, .int .i64 t325, .int .i64 t326, .int .i64 t327, .int .i64 t328, .int .u8 t329, .int .i64 t330, .int .i64 t331, .bool t332, .bool t333, .int .u8 t334, .int .i64 t335, .int .i64 t336, .int .i64 t337, .int .i64 t338, .int .u8 t339] 27 (0, 0))) := ⟨hblk⟩; have n4_ : Aside0 (Below w.heap.size w w60) := ⟨Below.trans (by repeat (first | (with_reducible first | exact HB.out | apply kL | apply kM | apply kE | refine kS ?_ GE305.out | refine kS ?_ GE306.out | refine kS ?_ GE323.out | refine kS ?_ GE340.out) | exact HB.out)) (hbel _ GE340.out)⟩; clear hblk hoth hbel; clear BK305; clear BK306; clear BK323; clear BK340; clear HB; have BK305 := n0_; have BK306 := n1_; have BK323 := n2_; have BK340 := n3_; have HB := n4_; clear n0_ n1_ n2_ n3_ n4_))
    have n0_ := Aside0.mk (kD BK305.out)
    have n1_ := Aside0.mk (kD BK306.out)
    have n2_ := Aside0.mk (kD BK323.out)
    have n3_ := Aside0.mk (kD BK340.out)
    have n4_ := Aside0.mk (kE HB.out)
    clear BK305
    clear BK306
    clear BK323
    clear BK340
    clear HB
    have BK305 := n0_
    have BK306 := n1_
    have BK323 := n2_
    have BK340 := n3_
    have HB := n4_
    clear n0_ n1_ n2_ n3_ n4_
    refine start_ (n := 15) (S := fun w' => w'.cell? ⟨gb323, 0, none⟩ = some (.int .u8 t307) ∧ w'.cell? ⟨gb323, 1, none⟩ = some (.int .i64 t308) ∧ w'.cell? ⟨gb323, 2, none⟩ = some (.int .i64 t309) ∧ w'.cell? ⟨gb323, 3, none⟩ = some (.int .i64 t310) ∧ w'.cell? ⟨gb323, 4, none⟩ = some (.int .i64 t311) ∧ w'.cell? ⟨gb323, 5, none⟩ = some (.int .u8 t312) ∧ w'.cell? ⟨gb323, 6, none⟩ = some (.int .i64 t313) ∧ w'.cell? ⟨gb323, 7, none⟩ = some (.int .i64 t314) ∧ w'.cell? ⟨gb323, 8, none⟩ = some (.bool t315) ∧ w'.cell? ⟨gb323, 9, none⟩ = some (.bool t316) ∧ w'.cell? ⟨gb323, 10, none⟩ = some (.int .u8 t317) ∧ w'.cell? ⟨gb323, 11, none⟩ = some (.int .i64 t318) ∧ w'.cell? ⟨gb323, 12, none⟩ = some (.int .i64 t319) ∧ w'.cell? ⟨gb323, 13, none⟩ = some (.int .i64 t320) ∧ w'.cell? ⟨gb323, 14, none⟩ = some (.int .i64 t321) ∧ w'.cell? ⟨gb323, 15, none⟩ = some (.int .u8 t322) ∧ w'.cell? ⟨gb340, 0, none⟩ = some (.int .u8 t324) ∧ w'.cell? ⟨gb340, 1, none⟩ = some (.int .i64 t325) ∧ w'.cell? ⟨gb340, 2, none⟩ = some (.int .i64 t326) ∧ w'.cell? ⟨gb340, 3, none⟩ = some (.int .i64 t327) ∧ w'.cell? ⟨gb340, 4, none⟩ = some (.int .i64 t328) ∧ w'.cell? ⟨gb340, 5, none⟩ = some (.int .u8 t329) ∧ w'.cell? ⟨gb340, 6, none⟩ = some (.int .i64 t330) ∧ w'.cell? ⟨gb340, 7, none⟩ = some (.int .i64 t331) ∧ w'.cell? ⟨gb340, 8, none⟩ = some (.bool t332) ∧ w'.cell? ⟨gb340, 9, none⟩ = some (.bool t333) ∧ w'.cell? ⟨gb340, 10, none⟩ = some (.int .u8 t334) ∧ w'.cell? ⟨gb340, 11, none⟩ = some (.int .i64 t335) ∧ w'.cell? ⟨gb340, 12, none⟩ = some (.int .i64 t336) ∧ w'.cell? ⟨gb340, 13, none⟩ = some (.int .i64 t337) ∧ w'.cell? ⟨gb340, 14, none⟩ = some (.int .i64 t338) ∧ w'.cell? ⟨gb340, 15, none⟩ = some (.int .u8 t339)) (ds := []) #[F,F,F,F,F,F,F,F,F,F,F,F,F,F,F] (by kernel_rfl) rfl rfl ⟨(kC BK323.out 0).trans rfl, (kC BK323.out 1).trans rfl, (kC BK323.out 2).trans rfl, (kC BK323.out 3).trans rfl, (kC BK323.out 4).trans rfl, (kC BK323.out 5).trans rfl, (kC BK323.out 6).trans rfl, (kC BK323.out 7).trans rfl, (kC BK323.out 8).trans rfl, (kC BK323.out 9).trans rfl, (kC BK323.out 10).trans rfl, (kC BK323.out 11).trans rfl, (kC BK323.out 12).trans rfl, (kC BK323.out 13).trans rfl, (kC BK323.out 14).trans rfl, (kC BK323.out 15).trans rfl, (kC BK340.out 0).trans rfl, (kC BK340.out 1).trans rfl, (kC BK340.out 2).trans rfl, (kC BK340.out 3).trans rfl, (kC BK340.out 4).trans rfl, (kC BK340.out 5).trans rfl, (kC BK340.out 6).trans rfl, (kC BK340.out 7).trans rfl, (kC BK340.out 8).trans rfl, (kC BK340.out 9).trans rfl, (kC BK340.out 10).trans rfl, (kC BK340.out 11).trans rfl, (kC BK340.out 12).trans rfl, (kC BK340.out 13).trans rfl, (kC BK340.out 14).trans rfl, (kC BK340.out 15).trans rfl⟩ (fun hHeld => ?_); refine with_tabW paybooklaw10_OrderApart.tab5 paybooklaw10_OrderApart.bits5 (fun HT_ HW_ => ?_)
    generalize w60.drew = w61 at BK305 BK306 BK323 BK340 HB hHeld ⊢
    refine one_ (i := 0) (N := some 15) #[T,F,F,F,F,F,F,F,F,F,F,F,F,F,F] rfl rfl (one_of HT_.out (by kernel_rfl)) (by decide) (fun K hK => ?_)
    refine goes_ Try.func10 (by kernel_rfl) rfl #[] (by rfl) rfl rfl (by (try simp only [List.map_toArray, List.map_cons, List.map_nil]); first | done | rfl | (simp only [List.length_drop, List.length_take]; rfl)) ?_
    with_reducible refine (paybooklaw10_awake.calls k  true _ A39.out).mono ?_
    rintro e w62 ⟨rfl, hb⟩
    refine ⟨_, rfl, ?_⟩
    have n0_ := Aside0.mk (blk_below (g := gb305) (o := .cells #[.int .u8 a0_0, .int .i64 a0_1, .int .i64 a0_2, .int .i64 a0_3, .int .i64 a0_4, .int .u8 a0_5, .int .i64 a0_6, .int .i64 a0_7, .bool a0_8, .bool a0_9, .int .u8 a0_10, .int .i64 a0_11, .int .i64 a0_12, .int .i64 a0_13, .int .i64 a0_14, .int .u8 a0_15] 27 (0, 0)) (by (with_reducible repeat (first | refine kN ?_ _ | refine kD ?_ | refine kA ?_ _)); exact BK305.out) hb)
    have n1_ := Aside0.mk (blk_below (g := gb306) (o := .cells #[.int .u8 a1_0, .int .i64 a1_1, .int .i64 a1_2, .int .i64 a1_3, .int .i64 a1_4, .int .u8 a1_5, .int .i64 a1_6, .int .i64 a1_7, .bool a1_8, .bool a1_9, .int .u8 a1_10, .int .i64 a1_11, .int .i64 a1_12, .int .i64 a1_13, .int .i64 a1_14, .int .u8 a1_15] 27 (0, 0)) (by (with_reducible repeat (first | refine kN ?_ _ | refine kD ?_ | refine kA ?_ _)); exact BK306.out) hb)
    have n2_ := Aside0.mk (blk_below (g := gb323) (o := .cells #[.int .u8 t307, .int .i64 t308, .int .i64 t309, .int .i64 t310, .int .i64 t311, .int .u8 t312, .int .i64 t313, .int .i64 t314, .bool t315, .bool t316, .int .u8 t317, .int .i64 t318, .int .i64 t319, .int .i64 t320, .int .i64 t321, .int .u8 t322] 27 (0, 0)) (by (with_reducible repeat (first | refine kN ?_ _ | refine kD ?_ | refine kA ?_ _)); exact BK323.out) hb)
    have n3_ := Aside0.mk (blk_below (g := gb340) (o := .cells #[.int .u8 t324, .int .i64 t325, .int .i64 t326, .int .i64 t327, .int .i64 t328, .int .u8 t329, .int .i64 t330, .int .i64 t331, .bool t332, .bool t333, .int .u8 t334, .int .i64 t335, .int .i64 t336, .int .i64 t337, .int .i64 t338, .int .u8 t339] 27 (0, 0)) (by (with_reducible repeat (first | refine kN ?_ _ | refine kD ?_ | refine kA ?_ _)); exact BK340.out) hb)
    have n4_ := Aside0.mk (below_step (by repeat (first | (with_reducible first | exact HB.out | apply kL | apply kM | apply kE | refine kS ?_ GE305.out | refine kS ?_ GE306.out | refine kS ?_ GE323.out | refine kS ?_ GE340.out) | exact HB.out)) hb)
    clear BK305
    clear BK306
    clear BK323
    clear BK340
    clear HB
    have BK305 := n0_
    have BK306 := n1_
    have BK323 := n2_
    have BK340 := n3_
    have HB := n4_
    clear n0_ n1_ n2_ n3_ n4_
    (try clear hb)
    (try clear hb2)
    (try clear hk)
    (try clear hi)
    refine hK.out _ _ ⟨(kC BK323.out 0).trans rfl, (kC BK323.out 1).trans rfl, (kC BK323.out 2).trans rfl, (kC BK323.out 3).trans rfl, (kC BK323.out 4).trans rfl, (kC BK323.out 5).trans rfl, (kC BK323.out 6).trans rfl, (kC BK323.out 7).trans rfl, (kC BK323.out 8).trans rfl, (kC BK323.out 9).trans rfl, (kC BK323.out 10).trans rfl, (kC BK323.out 11).trans rfl, (kC BK323.out 12).trans rfl, (kC BK323.out 13).trans rfl, (kC BK323.out 14).trans rfl, (kC BK323.out 15).trans rfl, (kC BK340.out 0).trans rfl, (kC BK340.out 1).trans rfl, (kC BK340.out 2).trans rfl, (kC BK340.out 3).trans rfl, (kC BK340.out 4).trans rfl, (kC BK340.out 5).trans rfl, (kC BK340.out 6).trans rfl, (kC BK340.out 7).trans rfl, (kC BK340.out 8).trans rfl, (kC BK340.out 9).trans rfl, (kC BK340.out 10).trans rfl, (kC BK340.out 11).trans rfl, (kC BK340.out 12).trans rfl, (kC BK340.out 13).trans rfl, (kC BK340.out 14).trans rfl, (kC BK340.out 15).trans rfl⟩ (fun hHeld => ?_)
    clear hK K
    refine norm_ (a' := ?_) ?_ ?_
    rotate_left
    ·show Act.put _ (some 15) _ = _
     simp only [Act.put, List.setIfInBounds_toArray, List.set_cons_zero, List.set_cons_succ, i64_w, i32_w]
     rfl
    refine pure_ (i := 1) (N := some 16) (v := ?_) (a' := ?_) #[T,T,F,F,F,F,F,F,F,F,F,F,F,F,F] rfl rfl (any_of HT_.out (by kernel_rfl)) (fun _ _ _ h => h) (Or.inl ⟨by rfl, ?_⟩) ?_ ?_
    rotate_left
    ·intro w'
     go_simp
     with_reducible rfl
    rotate_left
    ·simp only [Act.put, List.setIfInBounds_toArray, List.set_cons_zero, List.set_cons_succ, i64_w, i32_w]
     rfl
    refine take_ (i := 2) (N := some 17) (v := ?_) (a' := ?_) #[T,T,T,F,F,F,F,F,F,F,F,F,F,F,F] rfl rfl (take_ofW HT_.out HW_.out (by kernel_rfl)) (fun _ _ _ h => h) (Or.inl ⟨by rfl, ?_⟩) hHeld ?_ ?_
    rotate_left
    ·rintro w' ⟨s0, s1, s2, s3, s4, s5, s6, s7, s8, s9, s10, s11, s12, s13, s14, s15, s16, s17, s18, s19, s20, s21, s22, s23, s24, s25, s26, s27, s28, s29, s30, s31⟩
     go_simp
     with_reducible rfl
    rotate_left
    ·simp only [Act.put, List.setIfInBounds_toArray, List.set_cons_zero, List.set_cons_succ, i64_w, i32_w]
     rfl
    refine take_ (i := 5) (N := some 20) (v := ?_) (a' := ?_) #[T,T,T,F,F,T,F,F,F,F,F,F,F,F,F] rfl rfl (take_ofW HT_.out HW_.out (by kernel_rfl)) (fun _ _ _ h => h) (Or.inl ⟨by rfl, ?_⟩) hHeld ?_ ?_
    rotate_left
    ·rintro w' ⟨s0, s1, s2, s3, s4, s5, s6, s7, s8, s9, s10, s11, s12, s13, s14, s15, s16, s17, s18, s19, s20, s21, s22, s23, s24, s25, s26, s27, s28, s29, s30, s31⟩
     go_simp
     with_reducible rfl
    rotate_left
    ·simp only [Act.put, List.setIfInBounds_toArray, List.set_cons_zero, List.set_cons_succ, i64_w, i32_w]
     rfl
    refine take_ (i := 9) (N := some 24) (v := ?_) (a' := ?_) #[T,T,T,F,F,T,F,F,F,T,F,F,F,F,F] rfl rfl (take_ofW HT_.out HW_.out (by kernel_rfl)) (fun _ _ _ h => h) (Or.inl ⟨by rfl, ?_⟩) hHeld ?_ ?_
    rotate_left
    ·rintro w' ⟨s0, s1, s2, s3, s4, s5, s6, s7, s8, s9, s10, s11, s12, s13, s14, s15, s16, s17, s18, s19, s20, s21, s22, s23, s24, s25, s26, s27, s28, s29, s30, s31⟩
     go_simp
     with_reducible rfl
    rotate_left
    ·simp only [Act.put, List.setIfInBounds_toArray, List.set_cons_zero, List.set_cons_succ, i64_w, i32_w]
     rfl
    refine take_ (i := 10) (N := some 25) (v := ?_) (a' := ?_) #[T,T,T,F,F,T,F,F,F,T,T,F,F,F,F] rfl rfl (take_ofW HT_.out HW_.out (by kernel_rfl)) (fun _ _ _ h => h) (Or.inl ⟨by rfl, ?_⟩) hHeld ?_ ?_
    rotate_left
    ·rintro w' ⟨s0, s1, s2, s3, s4, s5, s6, s7, s8, s9, s10, s11, s12, s13, s14, s15, s16, s17, s18, s19, s20, s21, s22, s23, s24, s25, s26, s27, s28, s29, s30, s31⟩
     go_simp
     with_reducible rfl
    rotate_left
    ·simp only [Act.put, List.setIfInBounds_toArray, List.set_cons_zero, List.set_cons_succ, i64_w, i32_w]
     rfl
    refine pure_ (i := 11) (N := some 26) (v := ?_) (a' := ?_) #[T,T,T,F,F,T,F,F,F,T,T,T,F,F,F] rfl rfl (any_of HT_.out (by kernel_rfl)) (fun _ _ _ h => h) (Or.inl ⟨by rfl, ?_⟩) ?_ ?_
    rotate_left
    ·intro w'
     go_simp
     with_reducible rfl
    rotate_left
    ·simp only [Act.put, List.setIfInBounds_toArray, List.set_cons_zero, List.set_cons_succ, i64_w, i32_w]
     rfl
    refine one_ (i := 3) (N := some 18) #[T,T,T,T,F,T,F,F,F,T,T,T,F,F,F] rfl rfl (one_of HT_.out (by kernel_rfl)) (by decide) (fun K hK => ?_)
    refine goes_ Try.func15 (by kernel_rfl) rfl #[.agg #[.int .u8 t307, .int .i64 t308, .int .i64 t309, .int .i64 t310, .int .i64 t311, .int .u8 t312, .int .i64 t313, .int .i64 t314, .bool t315, .bool t316, .int .u8 t317, .int .i64 t318, .int .i64 t319, .int .i64 t320, .int .i64 t321, .int .u8 t322]] (by rfl) rfl rfl (by (try simp only [List.map_toArray, List.map_cons, List.map_nil]); first | done | rfl | (simp only [List.length_drop, List.length_take]; rfl)) ?_
    with_reducible refine (order_Encode.calls k t307 t308 t309 t310 t311 t312 t313 t314 t315 t316 t317 t318 t319 t320 t321 t322 t349 _ A41.out).mono ?_
    rintro e w63 ⟨v350, rfl, ho0, hb⟩
    refine ⟨_, rfl, ?_⟩
    have n0_ := Aside0.mk (Kd.R_lower ho0 (below_size (by repeat (first | (with_reducible first | exact HB.out | apply kL | apply kM | apply kE | refine kS ?_ GE305.out | refine kS ?_ GE306.out | refine kS ?_ GE323.out | refine kS ?_ GE340.out) | exact HB.out))))
    have n1_ := Aside0.mk (blk_below (g := gb305) (o := .cells #[.int .u8 a0_0, .int .i64 a0_1, .int .i64 a0_2, .int .i64 a0_3, .int .i64 a0_4, .int .u8 a0_5, .int .i64 a0_6, .int .i64 a0_7, .bool a0_8, .bool a0_9, .int .u8 a0_10, .int .i64 a0_11, .int .i64 a0_12, .int .i64 a0_13, .int .i64 a0_14, .int .u8 a0_15] 27 (0, 0)) (by (with_reducible repeat (first | refine kN ?_ _ | refine kD ?_ | refine kA ?_ _)); exact BK305.out) hb)
    have n2_ := Aside0.mk (blk_below (g := gb306) (o := .cells #[.int .u8 a1_0, .int .i64 a1_1, .int .i64 a1_2, .int .i64 a1_3, .int .i64 a1_4, .int .u8 a1_5, .int .i64 a1_6, .int .i64 a1_7, .bool a1_8, .bool a1_9, .int .u8 a1_10, .int .i64 a1_11, .int .i64 a1_12, .int .i64 a1_13, .int .i64 a1_14, .int .u8 a1_15] 27 (0, 0)) (by (with_reducible repeat (first | refine kN ?_ _ | refine kD ?_ | refine kA ?_ _)); exact BK306.out) hb)
    have n3_ := Aside0.mk (blk_below (g := gb323) (o := .cells #[.int .u8 t307, .int .i64 t308, .int .i64 t309, .int .i64 t310, .int .i64 t311, .int .u8 t312, .int .i64 t313, .int .i64 t314, .bool t315, .bool t316, .int .u8 t317, .int .i64 t318, .int .i64 t319, .int .i64 t320, .int .i64 t321, .int .u8 t322] 27 (0, 0)) (by (with_reducible repeat (first | refine kN ?_ _ | refine kD ?_ | refine kA ?_ _)); exact BK323.out) hb)
    have n4_ := Aside0.mk (blk_below (g := gb340) (o := .cells #[.int .u8 t324, .int .i64 t325, .int .i64 t326, .int .i64 t327, .int .i64 t328, .int .u8 t329, .int .i64 t330, .int .i64 t331, .bool t332, .bool t333, .int .u8 t334, .int .i64 t335, .int .i64 t336, .int .i64 t337, .int .i64 t338, .int .u8 t339] 27 (0, 0)) (by (with_reducible repeat (first | refine kN ?_ _ | refine kD ?_ | refine kA ?_ _)); exact BK340.out) hb)
    have n5_ := Aside0.mk (below_step (by repeat (first | (with_reducible first | exact HB.out | apply kL | apply kM | apply kE | refine kS ?_ GE305.out | refine kS ?_ GE306.out | refine kS ?_ GE323.out | refine kS ?_ GE340.out) | exact HB.out)) hb)
    clear BK305
    clear BK306
    clear BK323
    clear BK340
    clear HB
    have HO351 := n0_
    have BK305 := n1_
    have BK306 := n2_
    have BK323 := n3_
    have BK340 := n4_
    have HB := n5_
    clear n0_ n1_ n2_ n3_ n4_ n5_
    (try clear hb)
    (try clear hb2)
    (try clear hk)
    (try clear hi)
    (try clear ho0)
    refine hK.out _ _ ⟨(kC BK323.out 0).trans rfl, (kC BK323.out 1).trans rfl, (kC BK323.out 2).trans rfl, (kC BK323.out 3).trans rfl, (kC BK323.out 4).trans rfl, (kC BK323.out 5).trans rfl, (kC BK323.out 6).trans rfl, (kC BK323.out 7).trans rfl, (kC BK323.out 8).trans rfl, (kC BK323.out 9).trans rfl, (kC BK323.out 10).trans rfl, (kC BK323.out 11).trans rfl, (kC BK323.out 12).trans rfl, (kC BK323.out 13).trans rfl, (kC BK323.out 14).trans rfl, (kC BK323.out 15).trans rfl, (kC BK340.out 0).trans rfl, (kC BK340.out 1).trans rfl, (kC BK340.out 2).trans rfl, (kC BK340.out 3).trans rfl, (kC BK340.out 4).trans rfl, (kC BK340.out 5).trans rfl, (kC BK340.out 6).trans rfl, (kC BK340.out 7).trans rfl, (kC BK340.out 8).trans rfl, (kC BK340.out 9).trans rfl, (kC BK340.out 10).trans rfl, (kC BK340.out 11).trans rfl, (kC BK340.out 12).trans rfl, (kC BK340.out 13).trans rfl, (kC BK340.out 14).trans rfl, (kC BK340.out 15).trans rfl⟩ (fun hHeld => ?_)
    clear hK K
    refine norm_ (a' := ?_) ?_ ?_
    rotate_left
    ·show Act.put _ (some 18) _ = _
     simp only [Act.put, List.setIfInBounds_toArray, List.set_cons_zero, List.set_cons_succ, i64_w, i32_w]
     rfl
    refine join_ (σ := Value) 4 #[T,T,T,T,T,T,T,T,F,T,T,T,F,F,F] (fun s_ => [(19, .string (strOfNums t349)), (21, s_), (22, .string (strOfNums t352))]) (fun s_ w' => (w'.cell? ⟨gb323, 0, none⟩ = some (.int .u8 t307) ∧ w'.cell? ⟨gb323, 1, none⟩ = some (.int .i64 t308) ∧ w'.cell? ⟨gb323, 2, none⟩ = some (.int .i64 t309) ∧ w'.cell? ⟨gb323, 3, none⟩ = some (.int .i64 t310) ∧ w'.cell? ⟨gb323, 4, none⟩ = some (.int .i64 t311) ∧ w'.cell? ⟨gb323, 5, none⟩ = some (.int .u8 t312) ∧ w'.cell? ⟨gb323, 6, none⟩ = some (.int .i64 t313) ∧ w'.cell? ⟨gb323, 7, none⟩ = some (.int .i64 t314) ∧ w'.cell? ⟨gb323, 8, none⟩ = some (.bool t315) ∧ w'.cell? ⟨gb323, 9, none⟩ = some (.bool t316) ∧ w'.cell? ⟨gb323, 10, none⟩ = some (.int .u8 t317) ∧ w'.cell? ⟨gb323, 11, none⟩ = some (.int .i64 t318) ∧ w'.cell? ⟨gb323, 12, none⟩ = some (.int .i64 t319) ∧ w'.cell? ⟨gb323, 13, none⟩ = some (.int .i64 t320) ∧ w'.cell? ⟨gb323, 14, none⟩ = some (.int .i64 t321) ∧ w'.cell? ⟨gb323, 15, none⟩ = some (.int .u8 t322) ∧ w'.cell? ⟨gb340, 0, none⟩ = some (.int .u8 t324) ∧ w'.cell? ⟨gb340, 1, none⟩ = some (.int .i64 t325) ∧ w'.cell? ⟨gb340, 2, none⟩ = some (.int .i64 t326) ∧ w'.cell? ⟨gb340, 3, none⟩ = some (.int .i64 t327) ∧ w'.cell? ⟨gb340, 4, none⟩ = some (.int .i64 t328) ∧ w'.cell? ⟨gb340, 5, none⟩ = some (.int .u8 t329) ∧ w'.cell? ⟨gb340, 6, none⟩ = some (.int .i64 t330) ∧ w'.cell? ⟨gb340, 7, none⟩ = some (.int .i64 t331) ∧ w'.cell? ⟨gb340, 8, none⟩ = some (.bool t332) ∧ w'.cell? ⟨gb340, 9, none⟩ = some (.bool t333) ∧ w'.cell? ⟨gb340, 10, none⟩ = some (.int .u8 t334) ∧ w'.cell? ⟨gb340, 11, none⟩ = some (.int .i64 t335) ∧ w'.cell? ⟨gb340, 12, none⟩ = some (.int .i64 t336) ∧ w'.cell? ⟨gb340, 13, none⟩ = some (.int .i64 t337) ∧ w'.cell? ⟨gb340, 14, none⟩ = some (.int .i64 t338) ∧ w'.cell? ⟨gb340, 15, none⟩ = some (.int .u8 t339)) ∧ (Kd.R (Kd.int .u8) 5 w' w.heap.size (fun k_ => some k_ ≠ (s_ : Value).ownBlock) v350 t349) ∧ (Kd.R (Kd.int .u8) 5 w' w.heap.size (fun k_ => some k_ ≠ (v350 : Value).ownBlock) s_ t352) ∧ (w'.heap[gb305]? = some (.cells #[.int .u8 a0_0, .int .i64 a0_1, .int .i64 a0_2, .int .i64 a0_3, .int .i64 a0_4, .int .u8 a0_5, .int .i64 a0_6, .int .i64 a0_7, .bool a0_8, .bool a0_9, .int .u8 a0_10, .int .i64 a0_11, .int .i64 a0_12, .int .i64 a0_13, .int .i64 a0_14, .int .u8 a0_15] 27 (0, 0))) ∧ (w'.heap[gb306]? = some (.cells #[.int .u8 a1_0, .int .i64 a1_1, .int .i64 a1_2, .int .i64 a1_3, .int .i64 a1_4, .int .u8 a1_5, .int .i64 a1_6, .int .i64 a1_7, .bool a1_8, .bool a1_9, .int .u8 a1_10, .int .i64 a1_11, .int .i64 a1_12, .int .i64 a1_13, .int .i64 a1_14, .int .u8 a1_15] 27 (0, 0))) ∧ (w'.heap[gb323]? = some (.cells #[.int .u8 t307, .int .i64 t308, .int .i64 t309, .int .i64 t310, .int .i64 t311, .int .u8 t312, .int .i64 t313, .int .i64 t314, .bool t315, .bool t316, .int .u8 t317, .int .i64 t318, .int .i64 t319, .int .i64 t320, .int .i64 t321, .int .u8 t322] 27 (0, 0))) ∧ (w'.heap[gb340]? = some (.cells #[.int .u8 t324, .int .i64 t325, .int .i64 t326, .int .i64 t327, .int .i64 t328, .int .u8 t329, .int .i64 t330, .int .i64 t331, .bool t332, .bool t333, .int .u8 t334, .int .i64 t335, .int .i64 t336, .int .i64 t337, .int .i64 t338, .int .u8 t339] 27 (0, 0))) ∧ (Below w.heap.size w w')) ?_ ?_
    rotate_left
    ·intro hCont
     refine two_ (i := 4) (j := 6) (Ni := some 19) (Nj := some 21) #[T,T,T,T,T,T,F,F,F,T,T,T,F,F,F] #[T,T,T,T,F,T,T,F,F,T,T,T,F,F,F] rfl rfl rfl rfl (two_of HT_.out (by kernel_rfl)) (by decide) (by decide) (fun K hK => ?_) (fun K hK => ?_)
     ·skip
      have hcv64 := own_string (P := Try.prog) Try.underlying34 Try.underlying5 Try.underlying9 (Kd.own_of_R HO351.out)
      refine value_ (w1 := ?_) (v := ?_) (by rfl) rfl ?_ ?_
      rotate_left 2
      ·go_simp
       constructor
       ·rfl
       ·rfl
      clear hcv64
      refine hK.out _ _ ⟨(kC BK323.out 0).trans rfl, (kC BK323.out 1).trans rfl, (kC BK323.out 2).trans rfl, (kC BK323.out 3).trans rfl, (kC BK323.out 4).trans rfl, (kC BK323.out 5).trans rfl, (kC BK323.out 6).trans rfl, (kC BK323.out 7).trans rfl, (kC BK323.out 8).trans rfl, (kC BK323.out 9).trans rfl, (kC BK323.out 10).trans rfl, (kC BK323.out 11).trans rfl, (kC BK323.out 12).trans rfl, (kC BK323.out 13).trans rfl, (kC BK323.out 14).trans rfl, (kC BK323.out 15).trans rfl, (kC BK340.out 0).trans rfl, (kC BK340.out 1).trans rfl, (kC BK340.out 2).trans rfl, (kC BK340.out 3).trans rfl, (kC BK340.out 4).trans rfl, (kC BK340.out 5).trans rfl, (kC BK340.out 6).trans rfl, (kC BK340.out 7).trans rfl, (kC BK340.out 8).trans rfl, (kC BK340.out 9).trans rfl, (kC BK340.out 10).trans rfl, (kC BK340.out 11).trans rfl, (kC BK340.out 12).trans rfl, (kC BK340.out 13).trans rfl, (kC BK340.out 14).trans rfl, (kC BK340.out 15).trans rfl⟩ (fun hHeld => ?_)
      clear hK K
      refine norm_ (a' := ?_) ?_ ?_
      rotate_left
      ·show Act.put _ (some 19) _ = _
       simp only [Act.put, List.setIfInBounds_toArray, List.set_cons_zero, List.set_cons_succ, i64_w, i32_w]
       rfl
      refine one_ (i := 6) (N := some 21) #[T,T,T,T,T,T,T,F,F,T,T,T,F,F,F] rfl rfl (one_of HT_.out (by kernel_rfl)) (by decide) (fun K hK => ?_)
      refine goes_ Try.func15 (by kernel_rfl) rfl #[.agg #[.int .u8 t324, .int .i64 t325, .int .i64 t326, .int .i64 t327, .int .i64 t328, .int .u8 t329, .int .i64 t330, .int .i64 t331, .bool t332, .bool t333, .int .u8 t334, .int .i64 t335, .int .i64 t336, .int .i64 t337, .int .i64 t338, .int .u8 t339]] (by rfl) rfl rfl (by (try simp only [List.map_toArray, List.map_cons, List.map_nil]); first | done | rfl | (simp only [List.length_drop, List.length_take]; rfl)) ?_
      with_reducible refine (order_Encode.calls k t324 t325 t326 t327 t328 t329 t330 t331 t332 t333 t334 t335 t336 t337 t338 t339 t352 _ A42.out).mono ?_
      rintro e w65 ⟨v353, rfl, ho0, hb⟩
      refine ⟨_, rfl, ?_⟩
      have n0_ := Aside0.mk (Kd.R_elder' (by (with_reducible repeat (first | apply Kd.R_alloc | apply Kd.R_drewN | apply Kd.R_drew)); exact HO351.out) (Kd.R_base ho0) hb)
      have n1_ := Aside0.mk (Kd.R_lower (Kd.R_new' ho0 (Kd.R_lt (by (with_reducible repeat (first | apply Kd.R_alloc | apply Kd.R_drewN | apply Kd.R_drew)); exact HO351.out))) (below_size (by repeat (first | (with_reducible first | exact HB.out | apply kL | apply kM | apply kE | refine kS ?_ GE305.out | refine kS ?_ GE306.out | refine kS ?_ GE323.out | refine kS ?_ GE340.out) | exact HB.out))))
      have n2_ := Aside0.mk (blk_below (g := gb305) (o := .cells #[.int .u8 a0_0, .int .i64 a0_1, .int .i64 a0_2, .int .i64 a0_3, .int .i64 a0_4, .int .u8 a0_5, .int .i64 a0_6, .int .i64 a0_7, .bool a0_8, .bool a0_9, .int .u8 a0_10, .int .i64 a0_11, .int .i64 a0_12, .int .i64 a0_13, .int .i64 a0_14, .int .u8 a0_15] 27 (0, 0)) (by (with_reducible repeat (first | refine kN ?_ _ | refine kD ?_ | refine kA ?_ _)); exact BK305.out) hb)
      have n3_ := Aside0.mk (blk_below (g := gb306) (o := .cells #[.int .u8 a1_0, .int .i64 a1_1, .int .i64 a1_2, .int .i64 a1_3, .int .i64 a1_4, .int .u8 a1_5, .int .i64 a1_6, .int .i64 a1_7, .bool a1_8, .bool a1_9, .int .u8 a1_10, .int .i64 a1_11, .int .i64 a1_12, .int .i64 a1_13, .int .i64 a1_14, .int .u8 a1_15] 27 (0, 0)) (by (with_reducible repeat (first | refine kN ?_ _ | refine kD ?_ | refine kA ?_ _)); exact BK306.out) hb)
      have n4_ := Aside0.mk (blk_below (g := gb323) (o := .cells #[.int .u8 t307, .int .i64 t308, .int .i64 t309, .int .i64 t310, .int .i64 t311, .int .u8 t312, .int .i64 t313, .int .i64 t314, .bool t315, .bool t316, .int .u8 t317, .int .i64 t318, .int .i64 t319, .int .i64 t320, .int .i64 t321, .int .u8 t322] 27 (0, 0)) (by (with_reducible repeat (first | refine kN ?_ _ | refine kD ?_ | refine kA ?_ _)); exact BK323.out) hb)
      have n5_ := Aside0.mk (blk_below (g := gb340) (o := .cells #[.int .u8 t324, .int .i64 t325, .int .i64 t326, .int .i64 t327, .int .i64 t328, .int .u8 t329, .int .i64 t330, .int .i64 t331, .bool t332, .bool t333, .int .u8 t334, .int .i64 t335, .int .i64 t336, .int .i64 t337, .int .i64 t338, .int .u8 t339] 27 (0, 0)) (by (with_reducible repeat (first | refine kN ?_ _ | refine kD ?_ | refine kA ?_ _)); exact BK340.out) hb)
      have n6_ := Aside0.mk (below_step (by repeat (first | (with_reducible first | exact HB.out | apply kL | apply kM | apply kE | refine kS ?_ GE305.out | refine kS ?_ GE306.out | refine kS ?_ GE323.out | refine kS ?_ GE340.out) | exact HB.out)) hb)
      clear HO351
      clear BK305
      clear BK306
      clear BK323
      clear BK340
      clear HB
      have HO351 := n0_
      have HO354 := n1_
      have BK305 := n2_
      have BK306 := n3_
      have BK323 := n4_
      have BK340 := n5_
      have HB := n6_
      clear n0_ n1_ n2_ n3_ n4_ n5_ n6_
      (try clear hb)
      (try clear hb2)
      (try clear hk)
      (try clear hi)
      (try clear ho0)
      refine hK.out _ _ ⟨(kC BK323.out 0).trans rfl, (kC BK323.out 1).trans rfl, (kC BK323.out 2).trans rfl, (kC BK323.out 3).trans rfl, (kC BK323.out 4).trans rfl, (kC BK323.out 5).trans rfl, (kC BK323.out 6).trans rfl, (kC BK323.out 7).trans rfl, (kC BK323.out 8).trans rfl, (kC BK323.out 9).trans rfl, (kC BK323.out 10).trans rfl, (kC BK323.out 11).trans rfl, (kC BK323.out 12).trans rfl, (kC BK323.out 13).trans rfl, (kC BK323.out 14).trans rfl, (kC BK323.out 15).trans rfl, (kC BK340.out 0).trans rfl, (kC BK340.out 1).trans rfl, (kC BK340.out 2).trans rfl, (kC BK340.out 3).trans rfl, (kC BK340.out 4).trans rfl, (kC BK340.out 5).trans rfl, (kC BK340.out 6).trans rfl, (kC BK340.out 7).trans rfl, (kC BK340.out 8).trans rfl, (kC BK340.out 9).trans rfl, (kC BK340.out 10).trans rfl, (kC BK340.out 11).trans rfl, (kC BK340.out 12).trans rfl, (kC BK340.out 13).trans rfl, (kC BK340.out 14).trans rfl, (kC BK340.out 15).trans rfl⟩ (fun hHeld => ?_)
      clear hK K
      refine norm_ (a' := ?_) ?_ ?_
      rotate_left
      ·show Act.put _ (some 21) _ = _
       simp only [Act.put, List.setIfInBounds_toArray, List.set_cons_zero, List.set_cons_succ, i64_w, i32_w]
       rfl
      refine one_ (i := 7) (N := some 22) #[T,T,T,T,T,T,T,T,F,T,T,T,F,F,F] rfl rfl (one_of HT_.out (by kernel_rfl)) (by decide) (fun K hK => ?_)
      have hcv66 := own_string (P := Try.prog) Try.underlying34 Try.underlying5 Try.underlying9 (Kd.own_of_R HO354.out)
      refine value_ (w1 := ?_) (v := ?_) (by rfl) rfl ?_ ?_
      rotate_left 2
      ·go_simp
       constructor
       ·rfl
       ·rfl
      clear hcv66
      refine hK.out _ _ ⟨(kC BK323.out 0).trans rfl, (kC BK323.out 1).trans rfl, (kC BK323.out 2).trans rfl, (kC BK323.out 3).trans rfl, (kC BK323.out 4).trans rfl, (kC BK323.out 5).trans rfl, (kC BK323.out 6).trans rfl, (kC BK323.out 7).trans rfl, (kC BK323.out 8).trans rfl, (kC BK323.out 9).trans rfl, (kC BK323.out 10).trans rfl, (kC BK323.out 11).trans rfl, (kC BK323.out 12).trans rfl, (kC BK323.out 13).trans rfl, (kC BK323.out 14).trans rfl, (kC BK323.out 15).trans rfl, (kC BK340.out 0).trans rfl, (kC BK340.out 1).trans rfl, (kC BK340.out 2).trans rfl, (kC BK340.out 3).trans rfl, (kC BK340.out 4).trans rfl, (kC BK340.out 5).trans rfl, (kC BK340.out 6).trans rfl, (kC BK340.out 7).trans rfl, (kC BK340.out 8).trans rfl, (kC BK340.out 9).trans rfl, (kC BK340.out 10).trans rfl, (kC BK340.out 11).trans rfl, (kC BK340.out 12).trans rfl, (kC BK340.out 13).trans rfl, (kC BK340.out 14).trans rfl, (kC BK340.out 15).trans rfl⟩ (fun hHeld => ?_)
      clear hK K
      refine norm_ (a' := ?_) ?_ ?_
      rotate_left
      ·show Act.put _ (some 22) _ = _
       simp only [Act.put, List.setIfInBounds_toArray, List.set_cons_zero, List.set_cons_succ, i64_w, i32_w]
       rfl
      exact norm_ (by simp only [putAll, Act.put, List.setIfInBounds_toArray, List.set_cons_zero, List.set_cons_succ]) (hCont (v353) _ ⟨hHeld, (by (with_reducible repeat (first | apply Kd.R_alloc | apply Kd.R_drewN | apply Kd.R_drew)); exact Kd.R_mono HO351.out (fun _ hk => hk.2)), (by (with_reducible repeat (first | apply Kd.R_alloc | apply Kd.R_drewN | apply Kd.R_drew)); exact Kd.R_mono HO354.out (fun _ hk => hk.2)), (by (with_reducible repeat (first | refine kN ?_ _ | refine kD ?_ | refine kA ?_ _)); exact BK305.out), (by (with_reducible repeat (first | refine kN ?_ _ | refine kD ?_ | refine kA ?_ _)); exact BK306.out), (by (with_reducible repeat (first | refine kN ?_ _ | refine kD ?_ | refine kA ?_ _)); exact BK323.out), (by (with_reducible repeat (first | refine kN ?_ _ | refine kD ?_ | refine kA ?_ _)); exact BK340.out), (by repeat (first | (with_reducible first | exact HB.out | apply kL | apply kM | apply kE | refine kS ?_ GE305.out | refine kS ?_ GE306.out | refine kS ?_ GE323.out | refine kS ?_ GE340.out) | exact HB.out))⟩)
     ·skip
      refine goes_ Try.func15 (by kernel_rfl) rfl #[.agg #[.int .u8 t324, .int .i64 t325, .int .i64 t326, .int .i64 t327, .int .i64 t328, .int .u8 t329, .int .i64 t330, .int .i64 t331, .bool t332, .bool t333, .int .u8 t334, .int .i64 t335, .int .i64 t336, .int .i64 t337, .int .i64 t338, .int .u8 t339]] (by rfl) rfl rfl (by (try simp only [List.map_toArray, List.map_cons, List.map_nil]); first | done | rfl | (simp only [List.length_drop, List.length_take]; rfl)) ?_
      with_reducible refine (order_Encode.calls k t324 t325 t326 t327 t328 t329 t330 t331 t332 t333 t334 t335 t336 t337 t338 t339 t352 _ A42.out).mono ?_
      rintro e w64 ⟨v353, rfl, ho0, hb⟩
      refine ⟨_, rfl, ?_⟩
      have n0_ := Aside0.mk (Kd.R_elder' (by (with_reducible repeat (first | apply Kd.R_alloc | apply Kd.R_drewN | apply Kd.R_drew)); exact HO351.out) (Kd.R_base ho0) hb)
      have n1_ := Aside0.mk (Kd.R_lower (Kd.R_new' ho0 (Kd.R_lt (by (with_reducible repeat (first | apply Kd.R_alloc | apply Kd.R_drewN | apply Kd.R_drew)); exact HO351.out))) (below_size (by repeat (first | (with_reducible first | exact HB.out | apply kL | apply kM | apply kE | refine kS ?_ GE305.out | refine kS ?_ GE306.out | refine kS ?_ GE323.out | refine kS ?_ GE340.out) | exact HB.out))))
      have n2_ := Aside0.mk (blk_below (g := gb305) (o := .cells #[.int .u8 a0_0, .int .i64 a0_1, .int .i64 a0_2, .int .i64 a0_3, .int .i64 a0_4, .int .u8 a0_5, .int .i64 a0_6, .int .i64 a0_7, .bool a0_8, .bool a0_9, .int .u8 a0_10, .int .i64 a0_11, .int .i64 a0_12, .int .i64 a0_13, .int .i64 a0_14, .int .u8 a0_15] 27 (0, 0)) (by (with_reducible repeat (first | refine kN ?_ _ | refine kD ?_ | refine kA ?_ _)); exact BK305.out) hb)
      have n3_ := Aside0.mk (blk_below (g := gb306) (o := .cells #[.int .u8 a1_0, .int .i64 a1_1, .int .i64 a1_2, .int .i64 a1_3, .int .i64 a1_4, .int .u8 a1_5, .int .i64 a1_6, .int .i64 a1_7, .bool a1_8, .bool a1_9, .int .u8 a1_10, .int .i64 a1_11, .int .i64 a1_12, .int .i64 a1_13, .int .i64 a1_14, .int .u8 a1_15] 27 (0, 0)) (by (with_reducible repeat (first | refine kN ?_ _ | refine kD ?_ | refine kA ?_ _)); exact BK306.out) hb)
      have n4_ := Aside0.mk (blk_below (g := gb323) (o := .cells #[.int .u8 t307, .int .i64 t308, .int .i64 t309, .int .i64 t310, .int .i64 t311, .int .u8 t312, .int .i64 t313, .int .i64 t314, .bool t315, .bool t316, .int .u8 t317, .int .i64 t318, .int .i64 t319, .int .i64 t320, .int .i64 t321, .int .u8 t322] 27 (0, 0)) (by (with_reducible repeat (first | refine kN ?_ _ | refine kD ?_ | refine kA ?_ _)); exact BK323.out) hb)
      have n5_ := Aside0.mk (blk_below (g := gb340) (o := .cells #[.int .u8 t324, .int .i64 t325, .int .i64 t326, .int .i64 t327, .int .i64 t328, .int .u8 t329, .int .i64 t330, .int .i64 t331, .bool t332, .bool t333, .int .u8 t334, .int .i64 t335, .int .i64 t336, .int .i64 t337, .int .i64 t338, .int .u8 t339] 27 (0, 0)) (by (with_reducible repeat (first | refine kN ?_ _ | refine kD ?_ | refine kA ?_ _)); exact BK340.out) hb)
      have n6_ := Aside0.mk (below_step (by repeat (first | (with_reducible first | exact HB.out | apply kL | apply kM | apply kE | refine kS ?_ GE305.out | refine kS ?_ GE306.out | refine kS ?_ GE323.out | refine kS ?_ GE340.out) | exact HB.out)) hb)
      clear HO351
      clear BK305
      clear BK306
      clear BK323
      clear BK340
      clear HB
      have HO351 := n0_
      have HO354 := n1_
      have BK305 := n2_
      have BK306 := n3_
      have BK323 := n4_
      have BK340 := n5_
      have HB := n6_
      clear n0_ n1_ n2_ n3_ n4_ n5_ n6_
      (try clear hb)
      (try clear hb2)
      (try clear hk)
      (try clear hi)
      (try clear ho0)
      refine hK.out _ _ ⟨(kC BK323.out 0).trans rfl, (kC BK323.out 1).trans rfl, (kC BK323.out 2).trans rfl, (kC BK323.out 3).trans rfl, (kC BK323.out 4).trans rfl, (kC BK323.out 5).trans rfl, (kC BK323.out 6).trans rfl, (kC BK323.out 7).trans rfl, (kC BK323.out 8).trans rfl, (kC BK323.out 9).trans rfl, (kC BK323.out 10).trans rfl, (kC BK323.out 11).trans rfl, (kC BK323.out 12).trans rfl, (kC BK323.out 13).trans rfl, (kC BK323.out 14).trans rfl, (kC BK323.out 15).trans rfl, (kC BK340.out 0).trans rfl, (kC BK340.out 1).trans rfl, (kC BK340.out 2).trans rfl, (kC BK340.out 3).trans rfl, (kC BK340.out 4).trans rfl, (kC BK340.out 5).trans rfl, (kC BK340.out 6).trans rfl, (kC BK340.out 7).trans rfl, (kC BK340.out 8).trans rfl, (kC BK340.out 9).trans rfl, (kC BK340.out 10).trans rfl, (kC BK340.out 11).trans rfl, (kC BK340.out 12).trans rfl, (kC BK340.out 13).trans rfl, (kC BK340.out 14).trans rfl, (kC BK340.out 15).trans rfl⟩ (fun hHeld => ?_)
      clear hK K
      refine norm_ (a' := ?_) ?_ ?_
      rotate_left
      ·show Act.put _ (some 21) _ = _
       simp only [Act.put, List.setIfInBounds_toArray, List.set_cons_zero, List.set_cons_succ, i64_w, i32_w]
       rfl
      refine two_ (i := 4) (j := 7) (Ni := some 19) (Nj := some 22) #[T,T,T,T,T,T,T,F,F,T,T,T,F,F,F] #[T,T,T,T,F,T,T,T,F,T,T,T,F,F,F] rfl rfl rfl rfl (two_of HT_.out (by kernel_rfl)) (by decide) (by decide) (fun K hK => ?_) (fun K hK => ?_)
      ·skip
       have hcv65 := own_string (P := Try.prog) Try.underlying34 Try.underlying5 Try.underlying9 (Kd.own_of_R HO351.out)
       refine value_ (w1 := ?_) (v := ?_) (by rfl) rfl ?_ ?_
       rotate_left 2
       ·go_simp
        constructor
        ·rfl
        ·rfl
       clear hcv65
       refine hK.out _ _ ⟨(kC BK323.out 0).trans rfl, (kC BK323.out 1).trans rfl, (kC BK323.out 2).trans rfl, (kC BK323.out 3).trans rfl, (kC BK323.out 4).trans rfl, (kC BK323.out 5).trans rfl, (kC BK323.out 6).trans rfl, (kC BK323.out 7).trans rfl, (kC BK323.out 8).trans rfl, (kC BK323.out 9).trans rfl, (kC BK323.out 10).trans rfl, (kC BK323.out 11).trans rfl, (kC BK323.out 12).trans rfl, (kC BK323.out 13).trans rfl, (kC BK323.out 14).trans rfl, (kC BK323.out 15).trans rfl, (kC BK340.out 0).trans rfl, (kC BK340.out 1).trans rfl, (kC BK340.out 2).trans rfl, (kC BK340.out 3).trans rfl, (kC BK340.out 4).trans rfl, (kC BK340.out 5).trans rfl, (kC BK340.out 6).trans rfl, (kC BK340.out 7).trans rfl, (kC BK340.out 8).trans rfl, (kC BK340.out 9).trans rfl, (kC BK340.out 10).trans rfl, (kC BK340.out 11).trans rfl, (kC BK340.out 12).trans rfl, (kC BK340.out 13).trans rfl, (kC BK340.out 14).trans rfl, (kC BK340.out 15).trans rfl⟩ (fun hHeld => ?_)
       clear hK K
       refine norm_ (a' := ?_) ?_ ?_
       rotate_left
       ·show Act.put _ (some 19) _ = _
        simp only [Act.put, List.setIfInBounds_toArray, List.set_cons_zero, List.set_cons_succ, i64_w, i32_w]
        rfl
       refine one_ (i := 7) (N := some 22) #[T,T,T,T,T,T,T,T,F,T,T,T,F,F,F] rfl rfl (one_of HT_.out (by kernel_rfl)) (by decide) (fun K hK => ?_)
       have hcv66 := own_string (P := Try.prog) Try.underlying34 Try.underlying5 Try.underlying9 (Kd.own_of_R HO354.out)
       refine value_ (w1 := ?_) (v := ?_) (by rfl) rfl ?_ ?_
       rotate_left 2
       ·go_simp
        constructor
        ·rfl
        ·rfl
       clear hcv66
       refine hK.out _ _ ⟨(kC BK323.out 0).trans rfl, (kC BK323.out 1).trans rfl, (kC BK323.out 2).trans rfl, (kC BK323.out 3).trans rfl, (kC BK323.out 4).trans rfl, (kC BK323.out 5).trans rfl, (kC BK323.out 6).trans rfl, (kC BK323.out 7).trans rfl, (kC BK323.out 8).trans rfl, (kC BK323.out 9).trans rfl, (kC BK323.out 10).trans rfl, (kC BK323.out 11).trans rfl, (kC BK323.out 12).trans rfl, (kC BK323.out 13).trans rfl, (kC BK323.out 14).trans rfl, (kC BK323.out 15).trans rfl, (kC BK340.out 0).trans rfl, (kC BK340.out 1).trans rfl, (kC BK340.out 2).trans rfl, (kC BK340.out 3).trans rfl, (kC BK340.out 4).trans rfl, (kC BK340.out 5).trans rfl, (kC BK340.out 6).trans rfl, (kC BK340.out 7).trans rfl, (kC BK340.out 8).trans rfl, (kC BK340.out 9).trans rfl, (kC BK340.out 10).trans rfl, (kC BK340.out 11).trans rfl, (kC BK340.out 12).trans rfl, (kC BK340.out 13).trans rfl, (kC BK340.out 14).trans rfl, (kC BK340.out 15).trans rfl⟩ (fun hHeld => ?_)
       clear hK K
       refine norm_ (a' := ?_) ?_ ?_
       rotate_left
       ·show Act.put _ (some 22) _ = _
        simp only [Act.put, List.setIfInBounds_toArray, List.set_cons_zero, List.set_cons_succ, i64_w, i32_w]
        rfl
       exact norm_ (by simp only [putAll, Act.put, List.setIfInBounds_toArray, List.set_cons_zero, List.set_cons_succ]) (hCont (v353) _ ⟨hHeld, (by (with_reducible repeat (first | apply Kd.R_alloc | apply Kd.R_drewN | apply Kd.R_drew)); exact Kd.R_mono HO351.out (fun _ hk => hk.2)), (by (with_reducible repeat (first | apply Kd.R_alloc | apply Kd.R_drewN | apply Kd.R_drew)); exact Kd.R_mono HO354.out (fun _ hk => hk.2)), (by (with_reducible repeat (first | refine kN ?_ _ | refine kD ?_ | refine kA ?_ _)); exact BK305.out), (by (with_reducible repeat (first | refine kN ?_ _ | refine kD ?_ | refine kA ?_ _)); exact BK306.out), (by (with_reducible repeat (first | refine kN ?_ _ | refine kD ?_ | refine kA ?_ _)); exact BK323.out), (by (with_reducible repeat (first | refine kN ?_ _ | refine kD ?_ | refine kA ?_ _)); exact BK340.out), (by repeat (first | (with_reducible first | exact HB.out | apply kL | apply kM | apply kE | refine kS ?_ GE305.out | refine kS ?_ GE306.out | refine kS ?_ GE323.out | refine kS ?_ GE340.out) | exact HB.out))⟩)
      ·skip
       have hcv65 := own_string (P := Try.prog) Try.underlying34 Try.underlying5 Try.underlying9 (Kd.own_of_R HO354.out)
       refine value_ (w1 := ?_) (v := ?_) (by rfl) rfl ?_ ?_
       rotate_left 2
       ·go_simp
        constructor
        ·rfl
        ·rfl
       clear hcv65
       refine hK.out _ _ ⟨(kC BK323.out 0).trans rfl, (kC BK323.out 1).trans rfl, (kC BK323.out 2).trans rfl, (kC BK323.out 3).trans rfl, (kC BK323.out 4).trans rfl, (kC BK323.out 5).trans rfl, (kC BK323.out 6).trans rfl, (kC BK323.out 7).trans rfl, (kC BK323.out 8).trans rfl, (kC BK323.out 9).trans rfl, (kC BK323.out 10).trans rfl, (kC BK323.out 11).trans rfl, (kC BK323.out 12).trans rfl, (kC BK323.out 13).trans rfl, (kC BK323.out 14).trans rfl, (kC BK323.out 15).trans rfl, (kC BK340.out 0).trans rfl, (kC BK340.out 1).trans rfl, (kC BK340.out 2).trans rfl, (kC BK340.out 3).trans rfl, (kC BK340.out 4).trans rfl, (kC BK340.out 5).trans rfl, (kC BK340.out 6).trans rfl, (kC BK340.out 7).trans rfl, (kC BK340.out 8).trans rfl, (kC BK340.out 9).trans rfl, (kC BK340.out 10).trans rfl, (kC BK340.out 11).trans rfl, (kC BK340.out 12).trans rfl, (kC BK340.out 13).trans rfl, (kC BK340.out 14).trans rfl, (kC BK340.out 15).trans rfl⟩ (fun hHeld => ?_)
       clear hK K
       refine norm_ (a' := ?_) ?_ ?_
       rotate_left
       ·show Act.put _ (some 22) _ = _
        simp only [Act.put, List.setIfInBounds_toArray, List.set_cons_zero, List.set_cons_succ, i64_w, i32_w]
        rfl
       refine one_ (i := 4) (N := some 19) #[T,T,T,T,T,T,T,T,F,T,T,T,F,F,F] rfl rfl (one_of HT_.out (by kernel_rfl)) (by decide) (fun K hK => ?_)
       have hcv66 := own_string (P := Try.prog) Try.underlying34 Try.underlying5 Try.underlying9 (Kd.own_of_R HO351.out)
       refine value_ (w1 := ?_) (v := ?_) (by rfl) rfl ?_ ?_
       rotate_left 2
       ·go_simp
        constructor
        ·rfl
        ·rfl
       clear hcv66
       refine hK.out _ _ ⟨(kC BK323.out 0).trans rfl, (kC BK323.out 1).trans rfl, (kC BK323.out 2).trans rfl, (kC BK323.out 3).trans rfl, (kC BK323.out 4).trans rfl, (kC BK323.out 5).trans rfl, (kC BK323.out 6).trans rfl, (kC BK323.out 7).trans rfl, (kC BK323.out 8).trans rfl, (kC BK323.out 9).trans rfl, (kC BK323.out 10).trans rfl, (kC BK323.out 11).trans rfl, (kC BK323.out 12).trans rfl, (kC BK323.out 13).trans rfl, (kC BK323.out 14).trans rfl, (kC BK323.out 15).trans rfl, (kC BK340.out 0).trans rfl, (kC BK340.out 1).trans rfl, (kC BK340.out 2).trans rfl, (kC BK340.out 3).trans rfl, (kC BK340.out 4).trans rfl, (kC BK340.out 5).trans rfl, (kC BK340.out 6).trans rfl, (kC BK340.out 7).trans rfl, (kC BK340.out 8).trans rfl, (kC BK340.out 9).trans rfl, (kC BK340.out 10).trans rfl, (kC BK340.out 11).trans rfl, (kC BK340.out 12).trans rfl, (kC BK340.out 13).trans rfl, (kC BK340.out 14).trans rfl, (kC BK340.out 15).trans rfl⟩ (fun hHeld => ?_)
       clear hK K
       refine norm_ (a' := ?_) ?_ ?_
       rotate_left
       ·show Act.put _ (some 19) _ = _
        simp only [Act.put, List.setIfInBounds_toArray, List.set_cons_zero, List.set_cons_succ, i64_w, i32_w]
        rfl
       exact norm_ (by simp only [putAll, Act.put, List.setIfInBounds_toArray, List.set_cons_zero, List.set_cons_succ]) (hCont (v353) _ ⟨hHeld, (by (with_reducible repeat (first | apply Kd.R_alloc | apply Kd.R_drewN | apply Kd.R_drew)); exact Kd.R_mono HO351.out (fun _ hk => hk.2)), (by (with_reducible repeat (first | apply Kd.R_alloc | apply Kd.R_drewN | apply Kd.R_drew)); exact Kd.R_mono HO354.out (fun _ hk => hk.2)), (by (with_reducible repeat (first | refine kN ?_ _ | refine kD ?_ | refine kA ?_ _)); exact BK305.out), (by (with_reducible repeat (first | refine kN ?_ _ | refine kD ?_ | refine kA ?_ _)); exact BK306.out), (by (with_reducible repeat (first | refine kN ?_ _ | refine kD ?_ | refine kA ?_ _)); exact BK323.out), (by (with_reducible repeat (first | refine kN ?_ _ | refine kD ?_ | refine kA ?_ _)); exact BK340.out), (by repeat (first | (with_reducible first | exact HB.out | apply kL | apply kM | apply kE | refine kS ?_ GE305.out | refine kS ?_ GE306.out | refine kS ?_ GE323.out | refine kS ?_ GE340.out) | exact HB.out))⟩)
    rintro v353 w67 ⟨hS_, h0_, h1_, h2_, h3_, h4_, h5_, h6_⟩
    have n0_ : Aside0 (Kd.R (Kd.int .u8) 5 w67 w.heap.size (fun k_ => some k_ ≠ (v353 : Value).ownBlock) v350 t349) := ⟨h0_⟩
    have n1_ : Aside0 (Kd.R (Kd.int .u8) 5 w67 w.heap.size (fun k_ => some k_ ≠ (v350 : Value).ownBlock) v353 t352) := ⟨h1_⟩
    have n2_ : Aside0 (w67.heap[gb305]? = some (.cells #[.int .u8 a0_0, .int .i64 a0_1, .int .i64 a0_2, .int .i64 a0_3, .int .i64 a0_4, .int .u8 a0_5, .int .i64 a0_6, .int .i64 a0_7, .bool a0_8, .bool a0_9, .int .u8 a0_10, .int .i64 a0_11, .int .i64 a0_12, .int .i64 a0_13, .int .i64 a0_14, .int .u8 a0_15] 27 (0, 0))) := ⟨h2_⟩
    have n3_ : Aside0 (w67.heap[gb306]? = some (.cells #[.int .u8 a1_0, .int .i64 a1_1, .int .i64 a1_2, .int .i64 a1_3, .int .i64 a1_4, .int .u8 a1_5, .int .i64 a1_6, .int .i64 a1_7, .bool a1_8, .bool a1_9, .int .u8 a1_10, .int .i64 a1_11, .int .i64 a1_12, .int .i64 a1_13, .int .i64 a1_14, .int .u8 a1_15] 27 (0, 0))) := ⟨h3_⟩
    have n4_ : Aside0 (w67.heap[gb323]? = some (.cells #[.int .u8 t307, .int .i64 t308, .int .i64 t309, .int .i64 t310, .int .i64 t311, .int .u8 t312, .int .i64 t313, .int .i64 t314, .bool t315, .bool t316, .int .u8 t317, .int .i64 t318, .int .i64 t319, .int .i64 t320, .int .i64 t321, .int .u8 t322] 27 (0, 0))) := ⟨h4_⟩
    have n5_ : Aside0 (w67.heap[gb340]? = some (.cells #[.int .u8 t324, .int .i64 t325, .int .i64 t326, .int .i64 t327, .int .i64 t328, .int .u8 t329, .int .i64 t330, .int .i64 t331, .bool t332, .bool t333, .int .u8 t334, .int .i64 t335, .int .i64 t336, .int .i64 t337, .int .i64 t338, .int .u8 t339] 27 (0, 0))) := ⟨h5_⟩
    have n6_ : Aside0 (Below w.heap.size w w67) := ⟨h6_⟩
    clear BK305
    clear BK306
    clear BK323
    clear BK340
    clear HB
    clear h0_ h1_ h2_ h3_ h4_ h5_ h6_
    have HO351 := n0_
    have HO354 := n1_
    have BK305 := n2_
    have BK306 := n3_
    have BK323 := n4_
    have BK340 := n5_
    have HB := n6_
    clear n0_ n1_ n2_ n3_ n4_ n5_ n6_
    have hHeld : w67.cell? ⟨gb323, 0, none⟩ = some (.int .u8 t307) ∧ w67.cell? ⟨gb323, 1, none⟩ = some (.int .i64 t308) ∧ w67.cell? ⟨gb323, 2, none⟩ = some (.int .i64 t309) ∧ w67.cell? ⟨gb323, 3, none⟩ = some (.int .i64 t310) ∧ w67.cell? ⟨gb323, 4, none⟩ = some (.int .i64 t311) ∧ w67.cell? ⟨gb323, 5, none⟩ = some (.int .u8 t312) ∧ w67.cell? ⟨gb323, 6, none⟩ = some (.int .i64 t313) ∧ w67.cell? ⟨gb323, 7, none⟩ = some (.int .i64 t314) ∧ w67.cell? ⟨gb323, 8, none⟩ = some (.bool t315) ∧ w67.cell? ⟨gb323, 9, none⟩ = some (.bool t316) ∧ w67.cell? ⟨gb323, 10, none⟩ = some (.int .u8 t317) ∧ w67.cell? ⟨gb323, 11, none⟩ = some (.int .i64 t318) ∧ w67.cell? ⟨gb323, 12, none⟩ = some (.int .i64 t319) ∧ w67.cell? ⟨gb323, 13, none⟩ = some (.int .i64 t320) ∧ w67.cell? ⟨gb323, 14, none⟩ = some (.int .i64 t321) ∧ w67.cell? ⟨gb323, 15, none⟩ = some (.int .u8 t322) ∧ w67.cell? ⟨gb340, 0, none⟩ = some (.int .u8 t324) ∧ w67.cell? ⟨gb340, 1, none⟩ = some (.int .i64 t325) ∧ w67.cell? ⟨gb340, 2, none⟩ = some (.int .i64 t326) ∧ w67.cell? ⟨gb340, 3, none⟩ = some (.int .i64 t327) ∧ w67.cell? ⟨gb340, 4, none⟩ = some (.int .i64 t328) ∧ w67.cell? ⟨gb340, 5, none⟩ = some (.int .u8 t329) ∧ w67.cell? ⟨gb340, 6, none⟩ = some (.int .i64 t330) ∧ w67.cell? ⟨gb340, 7, none⟩ = some (.int .i64 t331) ∧ w67.cell? ⟨gb340, 8, none⟩ = some (.bool t332) ∧ w67.cell? ⟨gb340, 9, none⟩ = some (.bool t333) ∧ w67.cell? ⟨gb340, 10, none⟩ = some (.int .u8 t334) ∧ w67.cell? ⟨gb340, 11, none⟩ = some (.int .i64 t335) ∧ w67.cell? ⟨gb340, 12, none⟩ = some (.int .i64 t336) ∧ w67.cell? ⟨gb340, 13, none⟩ = some (.int .i64 t337) ∧ w67.cell? ⟨gb340, 14, none⟩ = some (.int .i64 t338) ∧ w67.cell? ⟨gb340, 15, none⟩ = some (.int .u8 t339) := hS_
    refine norm_ (a' := ?_) ?_ ?_
    rotate_left
    ·simp only [putAll, Act.put, List.setIfInBounds_toArray, List.set_cons_zero, List.set_cons_succ]
     rfl
    refine pure_ (i := 8) (N := some 23) (v := ?_) (a' := ?_) #[T,T,T,T,T,T,T,T,T,T,T,T,F,F,F] rfl rfl (any_of HT_.out (by kernel_rfl)) (fun _ _ _ h => h) (Or.inl ⟨by rfl, ?_⟩) ?_ ?_
    rotate_left
    ·intro w'
     go_simp
     with_reducible rfl
    rotate_left
    ·simp only [Act.put, List.setIfInBounds_toArray, List.set_cons_zero, List.set_cons_succ, i64_w, i32_w]
     rfl
    refine pure_ (i := 12) (N := some 27) (v := ?_) (a' := ?_) #[T,T,T,T,T,T,T,T,T,T,T,T,T,F,F] rfl rfl (any_of HT_.out (by kernel_rfl)) (fun _ _ _ h => h) (Or.inl ⟨by rfl, ?_⟩) ?_ ?_
    rotate_left
    ·intro w'
     go_simp
     with_reducible rfl
    rotate_left
    ·simp only [Act.put, List.setIfInBounds_toArray, List.set_cons_zero, List.set_cons_succ, i64_w, i32_w]
     rfl
    refine pure_ (i := 13) (N := some 28) (v := ?_) (a' := ?_) #[T,T,T,T,T,T,T,T,T,T,T,T,T,T,F] rfl rfl (any_of HT_.out (by kernel_rfl)) (fun _ _ _ h => h) (Or.inl ⟨by rfl, ?_⟩) ?_ ?_
    rotate_left
    ·intro w'
     go_simp
     with_reducible rfl
    rotate_left
    ·simp only [Act.put, List.setIfInBounds_toArray, List.set_cons_zero, List.set_cons_succ, i64_w, i32_w]
     rfl
    refine pure_ (i := 14) (N := some 6) (v := ?_) (a' := ?_) #[T,T,T,T,T,T,T,T,T,T,T,T,T,T,T] rfl rfl (any_of HT_.out (by kernel_rfl)) (fun _ _ _ h => h) (Or.inl ⟨by rfl, ?_⟩) ?_ ?_
    rotate_left
    ·intro w'
     go_simp
     with_reducible rfl
    rotate_left
    ·simp only [Act.put, List.setIfInBounds_toArray, List.set_cons_zero, List.set_cons_succ, i64_w, i32_w]
     rfl
    refine done_ (done_of HT_.out (by kernel_rfl)) ?_
    try go_wp2
    go_ret
    exact ⟨by first | rfl | (simp [errW_none, errW_some] <;> rfl) | (simp [*, errW_none, errW_some] <;> rfl), by repeat (first | (with_reducible first | exact HB.out | apply kL | apply kM | apply kE | refine kS ?_ GE305.out | refine kS ?_ GE306.out | refine kS ?_ GE323.out | refine kS ?_ GE340.out) | exact HB.out)⟩
  ·replace c40 := Bool.eq_false_iff.mpr c40
   subst c40
   have H1 : (some false) = some true := by rw [if_neg (show ¬ (false = true) by decide)] at H; try exact H
   clear H
   have H := H1
   clear H1
   exact absurd H (by simp)

/-- THE ONE PURE STATEMENT of paybooklaw10_OrderApart: yours. -/
def paybooklaw10_OrderApart.Pure : Prop := ∀ (a0_0 : Int) (a0_1 : Int) (a0_2 : Int) (a0_3 : Int) (a0_4 : Int) (a0_5 : Int) (a0_6 : Int) (a0_7 : Int) (a0_8 : Bool) (a0_9 : Bool) (a0_10 : Int) (a0_11 : Int) (a0_12 : Int) (a0_13 : Int) (a0_14 : Int) (a0_15 : Int) (a1_0 : Int) (a1_1 : Int) (a1_2 : Int) (a1_3 : Int) (a1_4 : Int) (a1_5 : Int) (a1_6 : Int) (a1_7 : Int) (a1_8 : Bool) (a1_9 : Bool) (a1_10 : Int) (a1_11 : Int) (a1_12 : Int) (a1_13 : Int) (a1_14 : Int) (a1_15 : Int) (a2 : Bool), (Lit.int .u8 a0_0).wf = true → (Lit.int .i64 a0_1).wf = true → (Lit.int .i64 a0_2).wf = true → (Lit.int .i64 a0_3).wf = true → (Lit.int .i64 a0_4).wf = true → (Lit.int .u8 a0_5).wf = true → (Lit.int .i64 a0_6).wf = true → (Lit.int .i64 a0_7).wf = true → (Lit.int .u8 a0_10).wf = true → (Lit.int .i64 a0_11).wf = true → (Lit.int .i64 a0_12).wf = true → (Lit.int .i64 a0_13).wf = true → (Lit.int .i64 a0_14).wf = true → (Lit.int .u8 a0_15).wf = true → (Lit.int .u8 a1_0).wf = true → (Lit.int .i64 a1_1).wf = true → (Lit.int .i64 a1_2).wf = true → (Lit.int .i64 a1_3).wf = true → (Lit.int .i64 a1_4).wf = true → (Lit.int .u8 a1_5).wf = true → (Lit.int .i64 a1_6).wf = true → (Lit.int .i64 a1_7).wf = true → (Lit.int .u8 a1_10).wf = true → (Lit.int .i64 a1_11).wf = true → (Lit.int .i64 a1_12).wf = true → (Lit.int .i64 a1_13).wf = true → (Lit.int .i64 a1_14).wf = true → (Lit.int .u8 a1_15).wf = true → ∃ k, paybooklaw10_OrderApart.f k a0_0 a0_1 a0_2 a0_3 a0_4 a0_5 a0_6 a0_7 a0_8 a0_9 a0_10 a0_11 a0_12 a0_13 a0_14 a0_15 a1_0 a1_1 a1_2 a1_3 a1_4 a1_5 a1_6 a1_7 a1_8 a1_9 a1_10 a1_11 a1_12 a1_13 a1_14 a1_15 a2 = some true
theorem paybooklaw10_OrderApart.walk (P : paybooklaw10_OrderApart.Pure) (a0_0 : Int) (a0_1 : Int) (a0_2 : Int) (a0_3 : Int) (a0_4 : Int) (a0_5 : Int) (a0_6 : Int) (a0_7 : Int) (a0_8 : Bool) (a0_9 : Bool) (a0_10 : Int) (a0_11 : Int) (a0_12 : Int) (a0_13 : Int) (a0_14 : Int) (a0_15 : Int) (a1_0 : Int) (a1_1 : Int) (a1_2 : Int) (a1_3 : Int) (a1_4 : Int) (a1_5 : Int) (a1_6 : Int) (a1_7 : Int) (a1_8 : Bool) (a1_9 : Bool) (a1_10 : Int) (a1_11 : Int) (a1_12 : Int) (a1_13 : Int) (a1_14 : Int) (a1_15 : Int) (a2 : Bool) (w : World) (w0_0 : (Lit.int .u8 a0_0).wf = true) (w0_1 : (Lit.int .i64 a0_1).wf = true) (w0_2 : (Lit.int .i64 a0_2).wf = true) (w0_3 : (Lit.int .i64 a0_3).wf = true) (w0_4 : (Lit.int .i64 a0_4).wf = true) (w0_5 : (Lit.int .u8 a0_5).wf = true) (w0_6 : (Lit.int .i64 a0_6).wf = true) (w0_7 : (Lit.int .i64 a0_7).wf = true) (w0_10 : (Lit.int .u8 a0_10).wf = true) (w0_11 : (Lit.int .i64 a0_11).wf = true) (w0_12 : (Lit.int .i64 a0_12).wf = true) (w0_13 : (Lit.int .i64 a0_13).wf = true) (w0_14 : (Lit.int .i64 a0_14).wf = true) (w0_15 : (Lit.int .u8 a0_15).wf = true) (w1_0 : (Lit.int .u8 a1_0).wf = true) (w1_1 : (Lit.int .i64 a1_1).wf = true) (w1_2 : (Lit.int .i64 a1_2).wf = true) (w1_3 : (Lit.int .i64 a1_3).wf = true) (w1_4 : (Lit.int .i64 a1_4).wf = true) (w1_5 : (Lit.int .u8 a1_5).wf = true) (w1_6 : (Lit.int .i64 a1_6).wf = true) (w1_7 : (Lit.int .i64 a1_7).wf = true) (w1_10 : (Lit.int .u8 a1_10).wf = true) (w1_11 : (Lit.int .i64 a1_11).wf = true) (w1_12 : (Lit.int .i64 a1_12).wf = true) (w1_13 : (Lit.int .i64 a1_13).wf = true) (w1_14 : (Lit.int .i64 a1_14).wf = true) (w1_15 : (Lit.int .u8 a1_15).wf = true) :
  Calls Try.prog 4 #[.agg #[.int .u8 a0_0, .int .i64 a0_1, .int .i64 a0_2, .int .i64 a0_3, .int .i64 a0_4, .int .u8 a0_5, .int .i64 a0_6, .int .i64 a0_7, .bool a0_8, .bool a0_9, .int .u8 a0_10, .int .i64 a0_11, .int .i64 a0_12, .int .i64 a0_13, .int .i64 a0_14, .int .u8 a0_15], .agg #[.int .u8 a1_0, .int .i64 a1_1, .int .i64 a1_2, .int .i64 a1_3, .int .i64 a1_4, .int .u8 a1_5, .int .i64 a1_6, .int .i64 a1_7, .bool a1_8, .bool a1_9, .int .u8 a1_10, .int .i64 a1_11, .int .i64 a1_12, .int .i64 a1_13, .int .i64 a1_14, .int .u8 a1_15], .bool a2] w fun e w' => e = .returned (.bool true) ∧ Below w.heap.size w w' := by
 obtain ⟨k, h⟩ := P a0_0 a0_1 a0_2 a0_3 a0_4 a0_5 a0_6 a0_7 a0_8 a0_9 a0_10 a0_11 a0_12 a0_13 a0_14 a0_15 a1_0 a1_1 a1_2 a1_3 a1_4 a1_5 a1_6 a1_7 a1_8 a1_9 a1_10 a1_11 a1_12 a1_13 a1_14 a1_15 a2 w0_0 w0_1 w0_2 w0_3 w0_4 w0_5 w0_6 w0_7 w0_10 w0_11 w0_12 w0_13 w0_14 w0_15 w1_0 w1_1 w1_2 w1_3 w1_4 w1_5 w1_6 w1_7 w1_10 w1_11 w1_12 w1_13 w1_14 w1_15
 refine (paybooklaw10_OrderApart.calls k a0_0 a0_1 a0_2 a0_3 a0_4 a0_5 a0_6 a0_7 a0_8 a0_9 a0_10 a0_11 a0_12 a0_13 a0_14 a0_15 a1_0 a1_1 a1_2 a1_3 a1_4 a1_5 a1_6 a1_7 a1_8 a1_9 a1_10 a1_11 a1_12 a1_13 a1_14 a1_15 a2 w h).mono ?_
 rintro e w' ⟨rfl, hd⟩
 exact ⟨rfl, hd⟩

end Go.Proofs.Ytlihgjonmliodaa.PA
