-- printed by this workplace: wip/patchprint.py over the kit's print
import Derived.Test.YtlihgjonmliodaaPAx0
import Derived.Test.YtlihgjonmliodaaPAx5
import Derived.Test.YtlihgjonmliodaaPAx9
import Derived.Test.YtlihgjonmliodaaPAx10
import Derived.Test.YtlihgjonmliodaaPAx11
import Derived.Test.YtlihgjonmliodaaPAx12
import Derived.Test.YtlihgjonmliodaaPAx14
namespace Go.Proofs.Ytlihgjonmliodaa.PA
open Go.RowKit Go.Proofs.YtlihgjonmliodaaW.PrintWords Go.Proofs.YtlihgjonmliodaaW.PrintLast Go.Proofs.YtlihgjonmliodaaW.PrintMore
attribute [local go_sem] max2_int min2_int max_two min_two max_three min_three max_four min_four   -- for this text's walks alone
set_option linter.unusedVariables false
set_option linter.unusedSimpArgs false

/-! ### order_Encode: function 15 -/
def order_Encode.f (k : Nat) (a0_0 : Int) (a0_1 : Int) (a0_2 : Int) (a0_3 : Int) (a0_4 : Int) (a0_5 : Int) (a0_6 : Int) (a0_7 : Int) (a0_8 : Bool) (a0_9 : Bool) (a0_10 : Int) (a0_11 : Int) (a0_12 : Int) (a0_13 : Int) (a0_14 : Int) (a0_15 : Int) : Option (List Int) := (order_Right.f k a0_0 a0_1 a0_2 a0_3 a0_4 a0_5 a0_6 a0_7 a0_8 a0_9 a0_10 a0_11 a0_12 a0_13 a0_14 a0_15).bind fun t173 => (if t173 = 0 then ((pack_New.f).bind fun bt174 => ((pack_Box_Put.f k bt174.1 bt174.2 (([wrap64 (a0_0)] : List Int))).bind fun bt182 => ((order_subs.f a0_0).bind fun t186 => (if t186 = true then ((pack_Box_Put.f k bt182.1 bt182.2 (([a0_1] : List Int))).bind fun bt190 => ((order_plans.f a0_0).bind fun t194 => (if t194 = true then ((pack_Box_Put.f k bt190.1 bt190.2 (([a0_2] : List Int))).bind fun bt198 => ((pack_Box_Done.f bt198.1 bt198.2).bind fun bt202 => (some bt202.1))) else ((pack_Box_Done.f bt190.1 bt190.2).bind fun bt209 => (some bt209.1))))) else (if a0_0 = 1 then ((plan_Put.f k bt182.1 bt182.2 a0_4 a0_5 a0_6 a0_7 a0_8 a0_9).bind fun bt216 => ((pack_Box_Done.f bt216.1 bt216.2).bind fun bt220 => (some bt220.1))) else (if a0_0 = 9 then ((pack_Box_Put.f k bt182.1 bt182.2 (([a0_3] : List Int))).bind fun bt230 => ((pack_Box_Done.f bt230.1 bt230.2).bind fun bt234 => (some bt234.1))) else ((order_Put.f k bt182.1 bt182.2 a0_10 a0_11 a0_12 a0_13 a0_14 a0_15).bind fun bt241 => ((pack_Box_Done.f bt241.1 bt241.2).bind fun bt245 => (some bt245.1))))))))) else (some ([] : List Int)))
theorem order_Encode.mono : ∀ a0 a1 a2 a3 a4 a5 a6 a7 a8 a9 a10 a11 a12 a13 a14 a15 k, LeO (order_Encode.f k a0 a1 a2 a3 a4 a5 a6 a7 a8 a9 a10 a11 a12 a13 a14 a15) (order_Encode.f (k + 1) a0 a1 a2 a3 a4 a5 a6 a7 a8 a9 a10 a11 a12 a13 a14 a15) := by
 intro a0 a1 a2 a3 a4 a5 a6 a7 a8 a9 a10 a11 a12 a13 a14 a15 k
 unfold order_Encode.f
 repeat' first
   | (with_reducible exact order_Put.mono _ _ _ _ _ _ _ _ _)
   | (with_reducible exact order_Right.mono _ _ _ _ _ _ _ _ _ _ _ _ _ _ _ _ _)
   | (with_reducible exact pack_Box_Put.mono _ _ _ _)
   | (with_reducible exact plan_Put.mono _ _ _ _ _ _ _ _ _)
   | (with_reducible exact LeO.refl _)
   | (with_reducible exact LeO.none _)
   | (with_reducible refine LeO.ite ?_ ?_)
   | (with_reducible refine LeO.bind ?_ (fun _ => ?_))
   | exact order_Put.mono _ _ _ _ _ _ _ _ _
   | exact order_Right.mono _ _ _ _ _ _ _ _ _ _ _ _ _ _ _ _ _
   | exact pack_Box_Put.mono _ _ _ _
   | exact plan_Put.mono _ _ _ _ _ _ _ _ _
   | exact LeO.none _
   | refine LeO.ite ?_ ?_
   | refine LeO.bind ?_ (fun _ => ?_)
def order_Encode.T3 : Bool × List (List Nat × List Nat) := (true, [([], []), ([], []), ([1], [1]), ([2], [2]), ([3], [3]), ([0, 4, 0], [0, 4]), ([5, 5, 0, 1, 2, 3, 4, 5], [5])])
def order_Encode.B3 : List Nat := [0, 0, 2, 6, 14, 31, 63]
theorem order_Encode.tab3 : rtab .any (opsOf Try.f15 3) = order_Encode.T3 := by kernel_rfl
theorem order_Encode.bits3 : waitsOk order_Encode.T3.2 order_Encode.B3 = true := by kernel_rfl
set_option maxHeartbeats 40000000 in
set_option maxRecDepth 100000 in
theorem order_Encode.calls (k : Nat) (a0_0 : Int) (a0_1 : Int) (a0_2 : Int) (a0_3 : Int) (a0_4 : Int) (a0_5 : Int) (a0_6 : Int) (a0_7 : Int) (a0_8 : Bool) (a0_9 : Bool) (a0_10 : Int) (a0_11 : Int) (a0_12 : Int) (a0_13 : Int) (a0_14 : Int) (a0_15 : Int) (r : List Int) (w : World) (h : order_Encode.f k a0_0 a0_1 a0_2 a0_3 a0_4 a0_5 a0_6 a0_7 a0_8 a0_9 a0_10 a0_11 a0_12 a0_13 a0_14 a0_15 = some r) :
  Calls Try.prog 15 #[.agg #[.int .u8 a0_0, .int .i64 a0_1, .int .i64 a0_2, .int .i64 a0_3, .int .i64 a0_4, .int .u8 a0_5, .int .i64 a0_6, .int .i64 a0_7, .bool a0_8, .bool a0_9, .int .u8 a0_10, .int .i64 a0_11, .int .i64 a0_12, .int .i64 a0_13, .int .i64 a0_14, .int .u8 a0_15]] w fun e w' => ∃ v0_ : Value, e = .returned (v0_) ∧ Kd.R (Kd.int .u8) 5 w' w.heap.size (fun _ => True) v0_ r ∧ Below w.heap.size w w' := by
 have hu27 := Try.underlying27
 have hu23 := Try.underlying23
 have hu25 := Try.underlying25
 have HB := Aside0.mk (Below.refl w.heap.size w)
 have H : ((order_Right.f k a0_0 a0_1 a0_2 a0_3 a0_4 a0_5 a0_6 a0_7 a0_8 a0_9 a0_10 a0_11 a0_12 a0_13 a0_14 a0_15).bind fun t173 => (if t173 = 0 then ((pack_New.f).bind fun bt174 => ((pack_Box_Put.f k bt174.1 bt174.2 (([wrap64 (a0_0)] : List Int))).bind fun bt182 => ((order_subs.f a0_0).bind fun t186 => (if t186 = true then ((pack_Box_Put.f k bt182.1 bt182.2 (([a0_1] : List Int))).bind fun bt190 => ((order_plans.f a0_0).bind fun t194 => (if t194 = true then ((pack_Box_Put.f k bt190.1 bt190.2 (([a0_2] : List Int))).bind fun bt198 => ((pack_Box_Done.f bt198.1 bt198.2).bind fun bt202 => (some bt202.1))) else ((pack_Box_Done.f bt190.1 bt190.2).bind fun bt209 => (some bt209.1))))) else (if a0_0 = 1 then ((plan_Put.f k bt182.1 bt182.2 a0_4 a0_5 a0_6 a0_7 a0_8 a0_9).bind fun bt216 => ((pack_Box_Done.f bt216.1 bt216.2).bind fun bt220 => (some bt220.1))) else (if a0_0 = 9 then ((pack_Box_Put.f k bt182.1 bt182.2 (([a0_3] : List Int))).bind fun bt230 => ((pack_Box_Done.f bt230.1 bt230.2).bind fun bt234 => (some bt234.1))) else ((order_Put.f k bt182.1 bt182.2 a0_10 a0_11 a0_12 a0_13 a0_14 a0_15).bind fun bt241 => ((pack_Box_Done.f bt241.1 bt241.2).bind fun bt245 => (some bt245.1))))))))) else (some ([] : List Int)))) = some r := h
 clear h
 replace H := Option.bind_eq_some_iff.mp H
 obtain ⟨t173, A20, H⟩ := H
 replace H : (if t173 = 0 then ((pack_New.f).bind fun bt174 => ((pack_Box_Put.f k bt174.1 bt174.2 (([wrap64 (a0_0)] : List Int))).bind fun bt182 => ((order_subs.f a0_0).bind fun t186 => (if t186 = true then ((pack_Box_Put.f k bt182.1 bt182.2 (([a0_1] : List Int))).bind fun bt190 => ((order_plans.f a0_0).bind fun t194 => (if t194 = true then ((pack_Box_Put.f k bt190.1 bt190.2 (([a0_2] : List Int))).bind fun bt198 => ((pack_Box_Done.f bt198.1 bt198.2).bind fun bt202 => (some bt202.1))) else ((pack_Box_Done.f bt190.1 bt190.2).bind fun bt209 => (some bt209.1))))) else (if a0_0 = 1 then ((plan_Put.f k bt182.1 bt182.2 a0_4 a0_5 a0_6 a0_7 a0_8 a0_9).bind fun bt216 => ((pack_Box_Done.f bt216.1 bt216.2).bind fun bt220 => (some bt220.1))) else (if a0_0 = 9 then ((pack_Box_Put.f k bt182.1 bt182.2 (([a0_3] : List Int))).bind fun bt230 => ((pack_Box_Done.f bt230.1 bt230.2).bind fun bt234 => (some bt234.1))) else ((order_Put.f k bt182.1 bt182.2 a0_10 a0_11 a0_12 a0_13 a0_14 a0_15).bind fun bt241 => ((pack_Box_Done.f bt241.1 bt241.2).bind fun bt245 => (some bt245.1))))))))) else (some ([] : List Int))) = some r := H
 have A2 := Aside0.mk A20
 clear A20
 by_cases c3 : t173 = 0
 ·rw [if_pos c3] at H
  have c3b0 : (t173 == 0) = true := beq_iff_eq.mpr c3
  have c3b1 : (t173 != 0) = false := bne_eq_false_iff_eq.mpr c3
  clear c3
  replace H := Option.bind_eq_some_iff.mp H
  obtain ⟨⟨t174, t177⟩, A40, H⟩ := H
  replace H : ((pack_Box_Put.f k t174 t177 (([wrap64 (a0_0)] : List Int))).bind fun bt182 => ((order_subs.f a0_0).bind fun t186 => (if t186 = true then ((pack_Box_Put.f k bt182.1 bt182.2 (([a0_1] : List Int))).bind fun bt190 => ((order_plans.f a0_0).bind fun t194 => (if t194 = true then ((pack_Box_Put.f k bt190.1 bt190.2 (([a0_2] : List Int))).bind fun bt198 => ((pack_Box_Done.f bt198.1 bt198.2).bind fun bt202 => (some bt202.1))) else ((pack_Box_Done.f bt190.1 bt190.2).bind fun bt209 => (some bt209.1))))) else (if a0_0 = 1 then ((plan_Put.f k bt182.1 bt182.2 a0_4 a0_5 a0_6 a0_7 a0_8 a0_9).bind fun bt216 => ((pack_Box_Done.f bt216.1 bt216.2).bind fun bt220 => (some bt220.1))) else (if a0_0 = 9 then ((pack_Box_Put.f k bt182.1 bt182.2 (([a0_3] : List Int))).bind fun bt230 => ((pack_Box_Done.f bt230.1 bt230.2).bind fun bt234 => (some bt234.1))) else ((order_Put.f k bt182.1 bt182.2 a0_10 a0_11 a0_12 a0_13 a0_14 a0_15).bind fun bt241 => ((pack_Box_Done.f bt241.1 bt241.2).bind fun bt245 => (some bt245.1)))))))) = some r := H
  have A4 := Aside0.mk A40
  clear A40
  obtain ⟨y179, hy179⟩ : ∃ y_ : List Int, y_ = (([wrap64 (a0_0)] : List Int)) := ⟨_, rfl⟩
  replace H : ((pack_Box_Put.f k t174 t177 y179).bind fun bt182 => ((order_subs.f a0_0).bind fun t186 => (if t186 = true then ((pack_Box_Put.f k bt182.1 bt182.2 (([a0_1] : List Int))).bind fun bt190 => ((order_plans.f a0_0).bind fun t194 => (if t194 = true then ((pack_Box_Put.f k bt190.1 bt190.2 (([a0_2] : List Int))).bind fun bt198 => ((pack_Box_Done.f bt198.1 bt198.2).bind fun bt202 => (some bt202.1))) else ((pack_Box_Done.f bt190.1 bt190.2).bind fun bt209 => (some bt209.1))))) else (if a0_0 = 1 then ((plan_Put.f k bt182.1 bt182.2 a0_4 a0_5 a0_6 a0_7 a0_8 a0_9).bind fun bt216 => ((pack_Box_Done.f bt216.1 bt216.2).bind fun bt220 => (some bt220.1))) else (if a0_0 = 9 then ((pack_Box_Put.f k bt182.1 bt182.2 (([a0_3] : List Int))).bind fun bt230 => ((pack_Box_Done.f bt230.1 bt230.2).bind fun bt234 => (some bt234.1))) else ((order_Put.f k bt182.1 bt182.2 a0_10 a0_11 a0_12 a0_13 a0_14 a0_15).bind fun bt241 => ((pack_Box_Done.f bt241.1 bt241.2).bind fun bt245 => (some bt245.1)))))))) = some r := by first | (rw [hy179]; with_reducible exact H) | (have H2_ := (Option.bind_some _ _).symm.trans H; rw [hy179]; with_reducible exact H2_) | (have H2_ := (Option.bind_some _ _).symm.trans H; with_reducible exact H2_) | with_reducible exact H | (rw [hy179]; exact H) | exact H
  have Ny179 := Aside0.mk hy179
  clear hy179
  replace H := Option.bind_eq_some_iff.mp H
  obtain ⟨⟨t182, t185⟩, A50, H⟩ := H
  replace H : ((order_subs.f a0_0).bind fun t186 => (if t186 = true then ((pack_Box_Put.f k t182 t185 (([a0_1] : List Int))).bind fun bt190 => ((order_plans.f a0_0).bind fun t194 => (if t194 = true then ((pack_Box_Put.f k bt190.1 bt190.2 (([a0_2] : List Int))).bind fun bt198 => ((pack_Box_Done.f bt198.1 bt198.2).bind fun bt202 => (some bt202.1))) else ((pack_Box_Done.f bt190.1 bt190.2).bind fun bt209 => (some bt209.1))))) else (if a0_0 = 1 then ((plan_Put.f k t182 t185 a0_4 a0_5 a0_6 a0_7 a0_8 a0_9).bind fun bt216 => ((pack_Box_Done.f bt216.1 bt216.2).bind fun bt220 => (some bt220.1))) else (if a0_0 = 9 then ((pack_Box_Put.f k t182 t185 (([a0_3] : List Int))).bind fun bt230 => ((pack_Box_Done.f bt230.1 bt230.2).bind fun bt234 => (some bt234.1))) else ((order_Put.f k t182 t185 a0_10 a0_11 a0_12 a0_13 a0_14 a0_15).bind fun bt241 => ((pack_Box_Done.f bt241.1 bt241.2).bind fun bt245 => (some bt245.1))))))) = some r := H
  have A5 := Aside0.mk A50
  clear A50
  replace H := Option.bind_eq_some_iff.mp H
  obtain ⟨t186, A60, H⟩ := H
  replace H : (if t186 = true then ((pack_Box_Put.f k t182 t185 (([a0_1] : List Int))).bind fun bt190 => ((order_plans.f a0_0).bind fun t194 => (if t194 = true then ((pack_Box_Put.f k bt190.1 bt190.2 (([a0_2] : List Int))).bind fun bt198 => ((pack_Box_Done.f bt198.1 bt198.2).bind fun bt202 => (some bt202.1))) else ((pack_Box_Done.f bt190.1 bt190.2).bind fun bt209 => (some bt209.1))))) else (if a0_0 = 1 then ((plan_Put.f k t182 t185 a0_4 a0_5 a0_6 a0_7 a0_8 a0_9).bind fun bt216 => ((pack_Box_Done.f bt216.1 bt216.2).bind fun bt220 => (some bt220.1))) else (if a0_0 = 9 then ((pack_Box_Put.f k t182 t185 (([a0_3] : List Int))).bind fun bt230 => ((pack_Box_Done.f bt230.1 bt230.2).bind fun bt234 => (some bt234.1))) else ((order_Put.f k t182 t185 a0_10 a0_11 a0_12 a0_13 a0_14 a0_15).bind fun bt241 => ((pack_Box_Done.f bt241.1 bt241.2).bind fun bt245 => (some bt245.1)))))) = some r := H
  have A6 := Aside0.mk A60
  clear A60
  by_cases c7 : t186 = true
  ·subst c7
   have H1 : ((pack_Box_Put.f k t182 t185 (([a0_1] : List Int))).bind fun bt190 => ((order_plans.f a0_0).bind fun t194 => (if t194 = true then ((pack_Box_Put.f k bt190.1 bt190.2 (([a0_2] : List Int))).bind fun bt198 => ((pack_Box_Done.f bt198.1 bt198.2).bind fun bt202 => (some bt202.1))) else ((pack_Box_Done.f bt190.1 bt190.2).bind fun bt209 => (some bt209.1))))) = some r := by rw [if_pos rfl] at H; try exact H
   clear H
   have H := H1
   clear H1
   obtain ⟨y187, hy187⟩ : ∃ y_ : List Int, y_ = (([a0_1] : List Int)) := ⟨_, rfl⟩
   replace H : ((pack_Box_Put.f k t182 t185 y187).bind fun bt190 => ((order_plans.f a0_0).bind fun t194 => (if t194 = true then ((pack_Box_Put.f k bt190.1 bt190.2 (([a0_2] : List Int))).bind fun bt198 => ((pack_Box_Done.f bt198.1 bt198.2).bind fun bt202 => (some bt202.1))) else ((pack_Box_Done.f bt190.1 bt190.2).bind fun bt209 => (some bt209.1))))) = some r := by first | (rw [hy187]; with_reducible exact H) | (have H2_ := (Option.bind_some _ _).symm.trans H; rw [hy187]; with_reducible exact H2_) | (have H2_ := (Option.bind_some _ _).symm.trans H; with_reducible exact H2_) | with_reducible exact H | (rw [hy187]; exact H) | exact H
   have Ny187 := Aside0.mk hy187
   clear hy187
   replace H := Option.bind_eq_some_iff.mp H
   obtain ⟨⟨t190, t193⟩, A80, H⟩ := H
   replace H : ((order_plans.f a0_0).bind fun t194 => (if t194 = true then ((pack_Box_Put.f k t190 t193 (([a0_2] : List Int))).bind fun bt198 => ((pack_Box_Done.f bt198.1 bt198.2).bind fun bt202 => (some bt202.1))) else ((pack_Box_Done.f t190 t193).bind fun bt209 => (some bt209.1)))) = some r := H
   have A8 := Aside0.mk A80
   clear A80
   replace H := Option.bind_eq_some_iff.mp H
   obtain ⟨t194, A90, H⟩ := H
   replace H : (if t194 = true then ((pack_Box_Put.f k t190 t193 (([a0_2] : List Int))).bind fun bt198 => ((pack_Box_Done.f bt198.1 bt198.2).bind fun bt202 => (some bt202.1))) else ((pack_Box_Done.f t190 t193).bind fun bt209 => (some bt209.1))) = some r := H
   have A9 := Aside0.mk A90
   clear A90
   by_cases c10 : t194 = true
   ·subst c10
    have H1 : ((pack_Box_Put.f k t190 t193 (([a0_2] : List Int))).bind fun bt198 => ((pack_Box_Done.f bt198.1 bt198.2).bind fun bt202 => (some bt202.1))) = some r := by rw [if_pos rfl] at H; try exact H
    clear H
    have H := H1
    clear H1
    obtain ⟨y195, hy195⟩ : ∃ y_ : List Int, y_ = (([a0_2] : List Int)) := ⟨_, rfl⟩
    replace H : ((pack_Box_Put.f k t190 t193 y195).bind fun bt198 => ((pack_Box_Done.f bt198.1 bt198.2).bind fun bt202 => (some bt202.1))) = some r := by first | (rw [hy195]; with_reducible exact H) | (have H2_ := (Option.bind_some _ _).symm.trans H; rw [hy195]; with_reducible exact H2_) | (have H2_ := (Option.bind_some _ _).symm.trans H; with_reducible exact H2_) | with_reducible exact H | (rw [hy195]; exact H) | exact H
    have Ny195 := Aside0.mk hy195
    clear hy195
    replace H := Option.bind_eq_some_iff.mp H
    obtain ⟨⟨t198, t201⟩, A110, H⟩ := H
    replace H : ((pack_Box_Done.f t198 t201).bind fun bt202 => (some bt202.1)) = some r := H
    have A11 := Aside0.mk A110
    clear A110
    replace H := Option.bind_eq_some_iff.mp H
    obtain ⟨⟨t202, t205, t208⟩, A120, H⟩ := H
    replace H : (some t202) = some r := H
    have A12 := Aside0.mk A120
    clear A120
    obtain rfl := Option.some.inj H
    go_enter Try.func15, Try.ntmps15
    try go_wp2_with (first | ((with_reducible refine gate_dst (N := 1) rfl ?_); refine box_event ?hg (N := 1) ?hd (cs := #[.int .u8 a0_0, .int .i64 a0_1, .int .i64 a0_2, .int .i64 a0_3, .int .i64 a0_4, .int .u8 a0_5, .int .i64 a0_6, .int .i64 a0_7, .bool a0_8, .bool a0_9, .int .u8 a0_10, .int .i64 a0_11, .int .i64 a0_12, .int .i64 a0_13, .int .i64 a0_14, .int .u8 a0_15]) (t := 27) ?hr ?_; (case hd => rfl); (case hg => rfl); (case hr => first | (go_simp; done) | (go_simp; rfl)); intro gb172 hg w13 hbox hb; have n0_ := Aside0.mk (below_step (by repeat (first | (with_reducible first | exact HB.out | apply kL | apply kM | apply kE) | exact HB.out)) hb); have n1_ := Aside0.mk (hbox); have n2_ := Aside0.mk ((by rw [hg]; exact (below_size (by repeat (first | (with_reducible first | exact HB.out | apply kL | apply kM | apply kE) | exact HB.out))) : w.heap.size ≤ gb172)); have n3_ := Aside0.mk ((by rw [hg]; exact (below_size (by repeat (first | (with_reducible first | exact HB.out | apply kL | apply kM | apply kE) | exact HB.out))) : w.heap.size ≤ gb172)); clear HB; have HB := n0_; have BK172 := n1_; have GW172 := n2_; have GE172 := n3_; clear n0_ n1_ n2_ n3_; clear hb hbox hg; obtain ⟨hcz14_0, hcz14_1, hcz14_2, hcz14_3, hcz14_4, hcz14_5, hcz14_6, hcz14_7, hcz14_8, hcz14_9, hcz14_10, hcz14_11, hcz14_12, hcz14_13, hcz14_14, hcz14_15, hfz14_0, hfz14_1, hfz14_2, hfz14_3, hfz14_4, hfz14_5, hfz14_6, hfz14_7, hfz14_8, hfz14_9, hfz14_10, hfz14_11, hfz14_12, hfz14_13, hfz14_14, hfz14_15⟩ := bxc16 BK172.out) | ((with_reducible refine gate_dst (N := 4) rfl ?_); refine wpList_load_row rfl 27 (.tmp 1) rfl gb172 rfl 27 #[.int .u8 a0_0, .int .i64 a0_1, .int .i64 a0_2, .int .i64 a0_3, .int .i64 a0_4, .int .u8 a0_5, .int .i64 a0_6, .int .i64 a0_7, .bool a0_8, .bool a0_9, .int .u8 a0_10, .int .i64 a0_11, .int .i64 a0_12, .int .i64 a0_13, .int .i64 a0_14, .int .u8 a0_15] (0, 0) _ (by (with_reducible repeat (first | refine kN ?_ _ | refine kD ?_ | refine kA ?_ _)); exact BK172.out) Try.underlying27 rfl (by kernel_rfl) ?_) | ((with_reducible refine gate_callee (f := 11) rfl ?_); refine goesL_ (some 5) rfl rfl Try.func11 (by kernel_rfl) rfl #[.agg #[.int .u8 a0_0, .int .i64 a0_1, .int .i64 a0_2, .int .i64 a0_3, .int .i64 a0_4, .int .u8 a0_5, .int .i64 a0_6, .int .i64 a0_7, .bool a0_8, .bool a0_9, .int .u8 a0_10, .int .i64 a0_11, .int .i64 a0_12, .int .i64 a0_13, .int .i64 a0_14, .int .u8 a0_15]] rfl (by (try simp only [List.map_toArray, List.map_cons, List.map_nil]); first | done | rfl | (simp only [List.length_drop, List.length_take]; rfl)) ?_; (with_reducible refine (order_Right.calls k a0_0 a0_1 a0_2 a0_3 a0_4 a0_5 a0_6 a0_7 a0_8 a0_9 a0_10 a0_11 a0_12 a0_13 a0_14 a0_15 t173 _ A2.out).mono ?_); rintro e w15 ⟨rfl, hb⟩; refine ⟨_, rfl, ?_⟩; have n0_ := Aside0.mk (blk_below (g := gb172) (o := .cells #[.int .u8 a0_0, .int .i64 a0_1, .int .i64 a0_2, .int .i64 a0_3, .int .i64 a0_4, .int .u8 a0_5, .int .i64 a0_6, .int .i64 a0_7, .bool a0_8, .bool a0_9, .int .u8 a0_10, .int .i64 a0_11, .int .i64 a0_12, .int .i64 a0_13, .int .i64 a0_14, .int .u8 a0_15] 27 (0, 0)) (by (with_reducible repeat (first | refine kN ?_ _ | refine kD ?_ | refine kA ?_ _)); exact BK172.out) hb); have n1_ := Aside0.mk (below_step (by repeat (first | (with_reducible first | exact HB.out | apply kL | apply kM | apply kE | refine kS ?_ GE172.out) | exact HB.out)) hb); clear BK172; clear HB; have BK172 := n0_; have HB := n1_; clear n0_ n1_; (try clear hb); (try clear hb2); (try clear hk); (try clear hi)))
    have n0_ := Aside0.mk (kD BK172.out)
    have n1_ := Aside0.mk (kE HB.out)
    clear BK172
    clear HB
    have BK172 := n0_
    have HB := n1_
    clear n0_ n1_
    refine start_ (n := 7) (S := fun w' => True) (ds := []) #[false, false, false, false, false, false, false] (by kernel_rfl) rfl rfl trivial (fun hHeld => ?_); refine with_tabW order_Encode.tab3 order_Encode.bits3 (fun HT_ HW_ => ?_)
    generalize w15.drew = w16 at BK172 HB hHeld ⊢
    refine pure_ (i := 1) (N := some 8) (v := ?_) (a' := ?_) #[false, true, false, false, false, false, false] rfl rfl (any_of HT_.out (by kernel_rfl)) (fun _ _ _ h => h) (Or.inl ⟨by rfl, ?_⟩) ?_ ?_
    rotate_left
    ·intro w'
     go_simp
     with_reducible rfl
    rotate_left
    ·simp only [Act.put, List.setIfInBounds_toArray, List.set_cons_zero, List.set_cons_succ, i64_w, i32_w]
     rfl
    refine inv_at [0, 2, 3, 4, 5, 6] (fun a0_ b a w' => ∃ (v175 : Value) (gb178 : Nat) (v180 : Value) (v183 : Value) (m0_ : Value) (m5_ : Value) (m6_ : Value), a = putSel a0_ b [(0, 7, m0_), (2, 9, .int .u8 a0_0), (3, 10, .int .i64 (wrap64 (a0_0))), (4, 11, v180), (5, 12, m5_), (6, 3, m6_)] ∧ (w'.heap[gb172]? = some (.cells #[.int .u8 a0_0, .int .i64 a0_1, .int .i64 a0_2, .int .i64 a0_3, .int .i64 a0_4, .int .u8 a0_5, .int .i64 a0_6, .int .i64 a0_7, .bool a0_8, .bool a0_9, .int .u8 a0_10, .int .i64 a0_11, .int .i64 a0_12, .int .i64 a0_13, .int .i64 a0_14, .int .u8 a0_15] 27 (0, 0))) ∧ (Below w.heap.size w w') ∧ (b 0 = true → b 5 = false → Kd.R (Kd.int .u8) 5 w' w.heap.size (fun _ => True) v175 t174) ∧ (b 0 = true → b 5 = false → w'.heap[gb178]? = some (.cells #[v175, .int .i64 t177] 60 (0, 0))) ∧ (b 0 = true → w.heap.size ≤ gb178) ∧ (b 0 = true → w.heap.size ≤ gb178) ∧ (b 0 = true → gb172 ≠ gb178) ∧ (b 0 = true → gb178 ≠ gb172) ∧ (b 4 = true → Kd.R (Kd.int .i64) 2 w' w.heap.size (fun _ => True) v180 y179) ∧ (b 5 = true → Kd.R (Kd.int .u8) 5 w' w.heap.size (fun _ => True) v183 t182) ∧ (b 5 = true → w'.heap[gb178]? = some (.cells #[v183, .int .i64 t185] 60 (0, 0))) ∧ (b 0 = true → (m0_ : Value) = .pointer (some ⟨gb178, 0, none⟩)) ∧ (b 5 = true → (m5_ : Value) = .pointer (some ⟨gb178, 0, none⟩)) ∧ (b 6 = true → (m6_ : Value) = .pointer (some ⟨gb178, 0, none⟩))) HT_.out HW_.out (by kernel_rfl) (by kernel_rfl) ?_ ?_ ?_
    ·exact ⟨.bool false, 0, .bool false, .bool false, .bool false, .bool false, .bool false, by simp only [putSel, Bool.false_eq_true, if_false], BK172.out, HB.out, fun h_ => absurd h_ (by decide), fun h_ => absurd h_ (by decide), fun h_ => absurd h_ (by decide), fun h_ => absurd h_ (by decide), fun h_ => absurd h_ (by decide), fun h_ => absurd h_ (by decide), fun h_ => absurd h_ (by decide), fun h_ => absurd h_ (by decide), fun h_ => absurd h_ (by decide), fun h_ => absurd h_ (by decide), fun h_ => absurd h_ (by decide), fun h_ => absurd h_ (by decide)⟩
    ·skip
     clear BK172 HB
     refine steps_cons ?_ ?_
     ·rintro b a w' ⟨v175, gb178, v180, v183, m0_, m5_, m6_, ha, Q_BK172, Q_HB, Q_HO176, Q_BK178, Q_GW178, Q_GE178, Q_NB172_178, Q_NB178_172, Q_HO181, Q_HO184, Q_BK178_e5, Q_X0_, Q_X5_, Q_X6_⟩ hb_ hon hoff
      refine ⟨_, rfl, fun K hK => ?_⟩
      replace ha := Aside0.mk ha
      have BK172 := Aside0.mk Q_BK172
      have HB := Aside0.mk Q_HB
      refine goes_ Try.func17 (by kernel_rfl) rfl #[] (by rfl) rfl rfl (by first | (simp only [List.map_toArray, List.map_cons, List.map_nil, Act.eval, Array.getD_eq_getD_getElem?, Option.getD_some]; done) | (simp only [List.map_toArray, List.map_cons, List.map_nil, Act.eval, Array.getD_eq_getD_getElem?, Option.getD_some]; rfl)) ?_
      with_reducible refine (pack_New.calls  t174 t177 _ A4.out).mono ?_
      rintro e w17 ⟨v175, gb178, rfl, ho0, hnb178, hnl178, hb⟩
      refine ⟨_, rfl, ?_⟩
      have n0_ := Aside0.mk (Kd.R_lower ho0 (below_size (by repeat (first | (with_reducible first | exact HB.out | apply kL | apply kM | apply kE | refine kS ?_ GE172.out) | exact HB.out))))
      have n1_ := Aside0.mk (blk_below (g := gb172) (o := .cells #[.int .u8 a0_0, .int .i64 a0_1, .int .i64 a0_2, .int .i64 a0_3, .int .i64 a0_4, .int .u8 a0_5, .int .i64 a0_6, .int .i64 a0_7, .bool a0_8, .bool a0_9, .int .u8 a0_10, .int .i64 a0_11, .int .i64 a0_12, .int .i64 a0_13, .int .i64 a0_14, .int .u8 a0_15] 27 (0, 0)) (by (with_reducible repeat (first | refine kN ?_ _ | refine kD ?_ | refine kA ?_ _)); exact BK172.out) hb)
      have n2_ := Aside0.mk (hnb178)
      have n3_ := Aside0.mk ((Nat.le_trans (below_size (by repeat (first | (with_reducible first | exact HB.out | apply kL | apply kM | apply kE | refine kS ?_ GE172.out) | exact HB.out))) hnl178 : w.heap.size ≤ gb178))
      have n4_ := Aside0.mk ((Nat.le_trans (below_size (by repeat (first | (with_reducible first | exact HB.out | apply kL | apply kM | apply kE | refine kS ?_ GE172.out) | exact HB.out))) hnl178 : w.heap.size ≤ gb178))
      have n5_ := Aside0.mk ((Nat.ne_of_lt (Nat.lt_of_lt_of_le (blk_lt (g := gb172) (o := .cells #[.int .u8 a0_0, .int .i64 a0_1, .int .i64 a0_2, .int .i64 a0_3, .int .i64 a0_4, .int .u8 a0_5, .int .i64 a0_6, .int .i64 a0_7, .bool a0_8, .bool a0_9, .int .u8 a0_10, .int .i64 a0_11, .int .i64 a0_12, .int .i64 a0_13, .int .i64 a0_14, .int .u8 a0_15] 27 (0, 0)) (by (with_reducible repeat (first | refine kN ?_ _ | refine kD ?_ | refine kA ?_ _)); exact BK172.out)) hnl178) : gb172 ≠ gb178))
      have n6_ := Aside0.mk ((Nat.ne_of_gt (Nat.lt_of_lt_of_le (blk_lt (g := gb172) (o := .cells #[.int .u8 a0_0, .int .i64 a0_1, .int .i64 a0_2, .int .i64 a0_3, .int .i64 a0_4, .int .u8 a0_5, .int .i64 a0_6, .int .i64 a0_7, .bool a0_8, .bool a0_9, .int .u8 a0_10, .int .i64 a0_11, .int .i64 a0_12, .int .i64 a0_13, .int .i64 a0_14, .int .u8 a0_15] 27 (0, 0)) (by (with_reducible repeat (first | refine kN ?_ _ | refine kD ?_ | refine kA ?_ _)); exact BK172.out)) hnl178) : gb178 ≠ gb172))
      have n7_ := Aside0.mk (below_step (by repeat (first | (with_reducible first | exact HB.out | apply kL | apply kM | apply kE | refine kS ?_ GE172.out) | exact HB.out)) hb)
      have z_HO181 := fun (h0_ : b 4 = true) => (show Kd.R (Kd.int .i64) 2 w17 w.heap.size (fun _ => True) v180 y179 from by first | exact (Kd.R_below (by (with_reducible repeat (first | apply Kd.R_alloc | apply Kd.R_drewN | apply Kd.R_drew)); exact (Q_HO181 h0_)) hb) | exact Kd.R_mono (Kd.R_below (by (with_reducible repeat (first | apply Kd.R_alloc | apply Kd.R_drewN | apply Kd.R_drew)); exact (Q_HO181 h0_)) hb) (fun _ h_ => by first | trivial | exact h_ | exact h_.1))
      clear BK172
      clear HB
      have HO176 := n0_
      have BK172 := n1_
      have BK178 := n2_
      have GW178 := n3_
      have GE178 := n4_
      have NB172_178 := n5_
      have NB178_172 := n6_
      have HB := n7_
      clear n0_ n1_ n2_ n3_ n4_ n5_ n6_ n7_
      (try clear hb)
      (try clear hb2)
      (try clear hk)
      (try clear hi)
      (try clear ho0)
      refine hK.out _ _ ⟨v175, gb178, v180, v183, (.pointer (some ⟨gb178, 0, none⟩)), m5_, m6_, (by rw [ha.out]; exact putSel_upk 0 hb_ rfl rfl rfl), (by (with_reducible repeat (first | refine kN ?_ _ | refine kD ?_ | refine kA ?_ _)); exact BK172.out), (by repeat (first | (with_reducible first | exact HB.out | apply kL | apply kM | apply kE | refine kS ?_ GE172.out | refine kS ?_ GE178.out) | exact HB.out)), fun _ _ => (by (with_reducible repeat (first | apply Kd.R_alloc | apply Kd.R_drewN | apply Kd.R_drew)); exact HO176.out), fun _ _ => (by (with_reducible repeat (first | refine kN ?_ _ | refine kD ?_ | refine kA ?_ _)); exact BK178.out), fun _ => GW178.out, fun _ => GE178.out, fun _ => NB172_178.out, fun _ => NB178_172.out, z_HO181, fun h0_ => absurd ((hoff 5 (by kernel_rfl)).symm.trans h0_) (by decide), fun h0_ => absurd ((hoff 5 (by kernel_rfl)).symm.trans h0_) (by decide), fun _ => rfl, fun h0_ => absurd ((hoff 5 (by kernel_rfl)).symm.trans h0_) (by decide), fun h0_ => absurd ((hoff 6 (by kernel_rfl)).symm.trans h0_) (by decide)⟩
     refine steps_cons ?_ ?_
     ·rintro b a w' ⟨v175, gb178, v180, v183, m0_, m5_, m6_, ha, Q_BK172, Q_HB, Q_HO176, Q_BK178, Q_GW178, Q_GE178, Q_NB172_178, Q_NB178_172, Q_HO181, Q_HO184, Q_BK178_e5, Q_X0_, Q_X5_, Q_X6_⟩ hb_ hon hoff
      refine ⟨_, rfl, fun K hK => ?_⟩
      have e8 : a.tmps[8]? = some (.pointer (some ⟨gb172, 0, none⟩)) := by rw [ha]; exact (putSel_off rfl).trans rfl
      replace ha := Aside0.mk ha
      have BK172 := Aside0.mk Q_BK172
      have HB := Aside0.mk Q_HB
      have hc0_ : w'.cell? ⟨gb172, 0, none⟩ = some (.int .u8 a0_0) := (kC BK172.out 0).trans rfl
      have hc1_ : w'.cell? ⟨gb172, 1, none⟩ = some (.int .i64 a0_1) := (kC BK172.out 1).trans rfl
      have hc2_ : w'.cell? ⟨gb172, 2, none⟩ = some (.int .i64 a0_2) := (kC BK172.out 2).trans rfl
      have hc3_ : w'.cell? ⟨gb172, 3, none⟩ = some (.int .i64 a0_3) := (kC BK172.out 3).trans rfl
      have hc4_ : w'.cell? ⟨gb172, 4, none⟩ = some (.int .i64 a0_4) := (kC BK172.out 4).trans rfl
      have hc5_ : w'.cell? ⟨gb172, 5, none⟩ = some (.int .u8 a0_5) := (kC BK172.out 5).trans rfl
      have hc6_ : w'.cell? ⟨gb172, 6, none⟩ = some (.int .i64 a0_6) := (kC BK172.out 6).trans rfl
      have hc7_ : w'.cell? ⟨gb172, 7, none⟩ = some (.int .i64 a0_7) := (kC BK172.out 7).trans rfl
      have hc8_ : w'.cell? ⟨gb172, 8, none⟩ = some (.bool a0_8) := (kC BK172.out 8).trans rfl
      have hc9_ : w'.cell? ⟨gb172, 9, none⟩ = some (.bool a0_9) := (kC BK172.out 9).trans rfl
      have hc10_ : w'.cell? ⟨gb172, 10, none⟩ = some (.int .u8 a0_10) := (kC BK172.out 10).trans rfl
      have hc11_ : w'.cell? ⟨gb172, 11, none⟩ = some (.int .i64 a0_11) := (kC BK172.out 11).trans rfl
      have hc12_ : w'.cell? ⟨gb172, 12, none⟩ = some (.int .i64 a0_12) := (kC BK172.out 12).trans rfl
      have hc13_ : w'.cell? ⟨gb172, 13, none⟩ = some (.int .i64 a0_13) := (kC BK172.out 13).trans rfl
      have hc14_ : w'.cell? ⟨gb172, 14, none⟩ = some (.int .i64 a0_14) := (kC BK172.out 14).trans rfl
      have hc15_ : w'.cell? ⟨gb172, 15, none⟩ = some (.int .u8 a0_15) := (kC BK172.out 15).trans rfl
      refine value_ (w1 := w') (v := .int .u8 a0_0) (by rfl) rfl ?_ ?_
      ·go_simp
       (try simp only [i64_w])
       try rfl
      refine hK.out _ _ ⟨v175, gb178, v180, v183, m0_, m5_, m6_, (by rw [ha.out]; exact putSel_upk 1 hb_ rfl rfl rfl), Q_BK172, Q_HB, Q_HO176, Q_BK178, Q_GW178, Q_GE178, Q_NB172_178, Q_NB178_172, fun h0_ => absurd ((hoff 4 (by kernel_rfl)).symm.trans h0_) (by decide), fun h0_ => absurd ((hoff 5 (by kernel_rfl)).symm.trans h0_) (by decide), fun h0_ => absurd ((hoff 5 (by kernel_rfl)).symm.trans h0_) (by decide), Q_X0_, fun h0_ => absurd ((hoff 5 (by kernel_rfl)).symm.trans h0_) (by decide), fun h0_ => absurd ((hoff 6 (by kernel_rfl)).symm.trans h0_) (by decide)⟩
     refine steps_cons ?_ ?_
     ·rintro b a w' ⟨v175, gb178, v180, v183, m0_, m5_, m6_, ha, Q_BK172, Q_HB, Q_HO176, Q_BK178, Q_GW178, Q_GE178, Q_NB172_178, Q_NB178_172, Q_HO181, Q_HO184, Q_BK178_e5, Q_X0_, Q_X5_, Q_X6_⟩ hb_ hon hoff
      refine ⟨_, rfl, fun K hK => ?_⟩
      have e9 : a.tmps[9]? = some (.int .u8 a0_0) := by rw [ha]; exact putSel_on (e := (2, 9, .int .u8 a0_0)) 1 rfl rfl (hon 2 (by kernel_rfl)) rfl
      replace ha := Aside0.mk ha
      have BK172 := Aside0.mk Q_BK172
      have HB := Aside0.mk Q_HB
      refine value_ (w1 := w') (v := .int .i64 (wrap64 (a0_0))) (by rfl) rfl ?_ ?_
      ·go_simp
       (try simp only [i64_w])
       try rfl
      refine hK.out _ _ ⟨v175, gb178, v180, v183, m0_, m5_, m6_, (by rw [ha.out]; exact putSel_upk 2 hb_ rfl rfl rfl), Q_BK172, Q_HB, Q_HO176, Q_BK178, Q_GW178, Q_GE178, Q_NB172_178, Q_NB178_172, fun h0_ => absurd ((hoff 4 (by kernel_rfl)).symm.trans h0_) (by decide), fun h0_ => absurd ((hoff 5 (by kernel_rfl)).symm.trans h0_) (by decide), fun h0_ => absurd ((hoff 5 (by kernel_rfl)).symm.trans h0_) (by decide), Q_X0_, fun h0_ => absurd ((hoff 5 (by kernel_rfl)).symm.trans h0_) (by decide), fun h0_ => absurd ((hoff 6 (by kernel_rfl)).symm.trans h0_) (by decide)⟩
     refine steps_cons ?_ ?_
     ·rintro b a w' ⟨v175, gb178, v180, v183, m0_, m5_, m6_, ha, Q_BK172, Q_HB, Q_HO176, Q_BK178, Q_GW178, Q_GE178, Q_NB172_178, Q_NB178_172, Q_HO181, Q_HO184, Q_BK178_e5, Q_X0_, Q_X5_, Q_X6_⟩ hb_ hon hoff
      refine ⟨_, rfl, fun K hK => ?_⟩
      have e10 : a.tmps[10]? = some (.int .i64 (wrap64 (a0_0))) := by rw [ha]; exact putSel_on (e := (3, 10, .int .i64 (wrap64 (a0_0)))) 2 rfl rfl (hon 3 (by kernel_rfl)) rfl
      replace ha := Aside0.mk ha
      have BK172 := Aside0.mk Q_BK172
      have HB := Aside0.mk Q_HB
      refine Kd.R_lit_step (Kd.int .i64) _ 2 ?hg (N := 11) ?hd (xs := ([wrap64 (a0_0)] : List Int)) (inner := [.int .i64 (wrap64 (a0_0))]) (ok := fun _ => True) (okp := fun _ => True) ?hr ?hp (fun _ hk => hk) trivial (Below.refl _ _) (Nat.le_refl _) (by simp) ?_; (case hd => rfl); (case hg => rfl); (case hr => first | (go_simp; done) | (go_simp; rfl)); (case hp => exact (Reps.one (show Kd.M (Kd.int .i64) _ _ _ (wrap64 (a0_0)) [.int .i64 (wrap64 (a0_0))] from rfl) (Reps.none _ _)))
      intro v180 w17 ho18 hb hg_ hnew_
      clear hg_ hnew_
      (first | rw [← Ny179.out] at ho18 | (simp only [Int.reduceToNat] at ho18; rw [← Ny179.out] at ho18))
      have n0_ := Aside0.mk (Kd.R_lower ho18 (below_size (by repeat (first | (with_reducible first | exact HB.out | apply kL | apply kM | apply kE | refine kS ?_ GE172.out) | exact HB.out))))
      have n1_ := Aside0.mk (blk_below (g := gb172) (o := .cells #[.int .u8 a0_0, .int .i64 a0_1, .int .i64 a0_2, .int .i64 a0_3, .int .i64 a0_4, .int .u8 a0_5, .int .i64 a0_6, .int .i64 a0_7, .bool a0_8, .bool a0_9, .int .u8 a0_10, .int .i64 a0_11, .int .i64 a0_12, .int .i64 a0_13, .int .i64 a0_14, .int .u8 a0_15] 27 (0, 0)) (by (with_reducible repeat (first | refine kN ?_ _ | refine kD ?_ | refine kA ?_ _)); exact BK172.out) hb)
      have n2_ := Aside0.mk (below_step (by repeat (first | (with_reducible first | exact HB.out | apply kL | apply kM | apply kE | refine kS ?_ GE172.out) | exact HB.out)) hb)
      have z_HO176 := fun (h0_ : b 0 = true) (h1_ : b 5 = false) => (show Kd.R (Kd.int .u8) 5 w17 w.heap.size (fun _ => True) v175 t174 from by first | exact (Kd.R_below (by (with_reducible repeat (first | apply Kd.R_alloc | apply Kd.R_drewN | apply Kd.R_drew)); exact (Q_HO176 h0_ h1_)) hb) | exact Kd.R_mono (Kd.R_below (by (with_reducible repeat (first | apply Kd.R_alloc | apply Kd.R_drewN | apply Kd.R_drew)); exact (Q_HO176 h0_ h1_)) hb) (fun _ h_ => by first | trivial | exact h_ | exact h_.1))
      have z_BK178 := fun (h0_ : b 0 = true) (h1_ : b 5 = false) => (show w17.heap[gb178]? = some (.cells #[v175, .int .i64 t177] 60 (0, 0)) from by first | exact (blk_below (g := gb178) (o := .cells #[v175, .int .i64 t177] 60 (0, 0)) (by (with_reducible repeat (first | refine kN ?_ _ | refine kD ?_ | refine kA ?_ _)); exact (Q_BK178 h0_ h1_)) hb))
      clear BK172
      clear HB
      have HO181 := n0_
      have BK172 := n1_
      have HB := n2_
      clear n0_ n1_ n2_
      clear hb ho18
      refine hK.out _ _ ⟨v175, gb178, v180, v183, m0_, m5_, m6_, (by rw [ha.out]; exact putSel_upk 3 hb_ rfl rfl rfl), (by (with_reducible repeat (first | refine kN ?_ _ | refine kD ?_ | refine kA ?_ _)); exact BK172.out), (by repeat (first | (with_reducible first | exact HB.out | apply kL | apply kM | apply kE | refine kS ?_ GE172.out) | exact HB.out)), z_HO176, z_BK178, Q_GW178, Q_GE178, Q_NB172_178, Q_NB178_172, fun _ => (by (with_reducible repeat (first | apply Kd.R_alloc | apply Kd.R_drewN | apply Kd.R_drew)); exact HO181.out), fun h0_ => absurd ((hoff 5 (by kernel_rfl)).symm.trans h0_) (by decide), fun h0_ => absurd ((hoff 5 (by kernel_rfl)).symm.trans h0_) (by decide), Q_X0_, fun h0_ => absurd ((hoff 5 (by kernel_rfl)).symm.trans h0_) (by decide), fun h0_ => absurd ((hoff 6 (by kernel_rfl)).symm.trans h0_) (by decide)⟩
     refine steps_cons ?_ ?_
     ·rintro b a w' ⟨v175, gb178, v180, v183, m0_, m5_, m6_, ha, Q_BK172, Q_HB, Q_HO176, Q_BK178, Q_GW178, Q_GE178, Q_NB172_178, Q_NB178_172, Q_HO181, Q_HO184, Q_BK178_e5, Q_X0_, Q_X5_, Q_X6_⟩ hb_ hon hoff
      refine ⟨_, rfl, fun K hK => ?_⟩
      have e7 : a.tmps[7]? = some (m0_) := by rw [ha]; exact putSel_on (e := (0, 7, m0_)) 0 rfl rfl (hon 0 (by kernel_rfl)) rfl
      rw [Q_X0_ (hon 0 (by kernel_rfl))] at e7
      have e11 : a.tmps[11]? = some (v180) := by rw [ha]; exact putSel_on (e := (4, 11, v180)) 3 rfl rfl (hon 4 (by kernel_rfl)) rfl
      replace ha := Aside0.mk ha
      have BK172 := Aside0.mk Q_BK172
      have HB := Aside0.mk Q_HB
      have HO176 := Aside0.mk (Q_HO176 (hon 0 (by kernel_rfl)) hb_)
      have BK178 := Aside0.mk (Q_BK178 (hon 0 (by kernel_rfl)) hb_)
      have GW178 := Aside0.mk (Q_GW178 (hon 0 (by kernel_rfl)))
      have GE178 := Aside0.mk (Q_GE178 (hon 0 (by kernel_rfl)))
      have NB172_178 := Aside0.mk (Q_NB172_178 (hon 0 (by kernel_rfl)))
      have NB178_172 := Aside0.mk (Q_NB178_172 (hon 0 (by kernel_rfl)))
      have HO181 := Aside0.mk (Q_HO181 (hon 4 (by kernel_rfl)))
      obtain ⟨Ao21, co21, eo21⟩ := Kd.R_slice HO181.out
      (first | subst eo21 | (injection eo21 with f1_ f2_ f3_; have f4_ := f1_.symm; have f5_ := f3_.symm; clear f1_ f2_ f3_; subst f4_; subst f5_))
      refine goes_ Try.func30 (by kernel_rfl) rfl #[.pointer (some ⟨gb178, 0, none⟩), .slice Ao21 y179.length co21] (by rfl) rfl rfl (by first | (simp only [List.map_toArray, List.map_cons, List.map_nil, Act.eval, Array.getD_eq_getD_getElem?, Option.getD_some, e7, e11]; done) | (simp only [List.map_toArray, List.map_cons, List.map_nil, Act.eval, Array.getD_eq_getD_getElem?, Option.getD_some, e7, e11]; rfl)) ?_
      with_reducible refine (pack_Box_Put.calls k gb178 (fun k_ => some k_ = (v175 : Value).ownBlock) v175 t174 t177 _ _ y179 t182 t185 w _ ?side1 ?side2 ?side3 ?side4 ?side5 ?side6 A5.out).mono ?_
      (case side1 => repeat (first | (with_reducible first | exact HB.out | apply kL | apply kM | apply kE | refine kS ?_ GE172.out | refine kS ?_ GE178.out) | exact HB.out))
      (case side2 => exact (by (with_reducible repeat (first | refine kN ?_ _ | refine kD ?_ | refine kA ?_ _)); exact BK178.out))
      (case side3 => exact GE178.out)
      (case side4 => exact Kd.R_tight rfl HO176.out)
      (case side5 => exact Kd.C_kept_own ((Kd.R_types (Kd.R_apart' HO181.out (Kd.R_typed HO176.out) (by decide)) BK178.out (by decide))) (fun k_ hk_ hs_ => Or.elim hs_ (fun hs_ => (hk_.1.2) hs_) (fun e_ => (hk_.2) e_)))
      (case side6 => exact (Kd.R_reads' HO181.out).2.1)
      rintro e w22 ⟨v183, rfl, ho0, hi, hb, hkp⟩
      refine ⟨_, rfl, ?_⟩
      have n0_ := Aside0.mk (blk_kept (by (with_reducible repeat (first | refine kN ?_ _ | refine kD ?_ | refine kA ?_ _)); exact BK172.out) hkp (fun hs_ => Or.elim hs_ (fun hs_ => (fun e_ => (Kd.R_ne HO176.out BK172.out (by decide)) e_) hs_) (fun e_ => NB172_178.out e_)))
      have n1_ := Aside0.mk (hi)
      have n2_ := Aside0.mk (Kd.R_mono (ok' := fun k_ => True) (Kd.R_keptB ((Kd.R_types (Kd.R_apart' HO181.out (Kd.R_typed HO176.out) (by decide)) BK178.out (by decide))) hkp (fun k_ hk_ hs_ => Or.elim hs_ (fun hs_ => (hk_.1.2) hs_) (fun e_ => (hk_.2) e_))) (fun k_ hk_ => trivial))
      have n3_ := Aside0.mk (Kd.R_mono (ok' := fun k_ => True) ho0 (fun k_ hk_ => trivial))
      have n4_ := Aside0.mk (hb)
      clear BK172
      clear BK178
      clear HO181
      clear HB
      clear HO176
      have BK172 := n0_
      have BK178 := n1_
      have HO181 := n2_
      have HO184 := n3_
      have HB := n4_
      clear n0_ n1_ n2_ n3_ n4_
      (try clear hb)
      (try clear hkp)
      (try clear hi)
      (try clear ho0)
      refine hK.out _ _ ⟨v175, gb178, .slice Ao21 y179.length co21, v183, m0_, (.pointer (some ⟨gb178, 0, none⟩)), m6_, (by rw [ha.out]; exact putSel_upk 4 hb_ rfl rfl rfl), (by (with_reducible repeat (first | refine kN ?_ _ | refine kD ?_ | refine kA ?_ _)); exact BK172.out), (by repeat (first | (with_reducible first | exact HB.out | apply kL | apply kM | apply kE | refine kS ?_ GE172.out | refine kS ?_ GE178.out) | exact HB.out)), fun _ h1_ => absurd ((up_self b 5).symm.trans h1_) (by decide), fun _ h1_ => absurd ((up_self b 5).symm.trans h1_) (by decide), fun _ => GW178.out, fun _ => GE178.out, fun _ => NB172_178.out, fun _ => NB178_172.out, fun _ => (by (with_reducible repeat (first | apply Kd.R_alloc | apply Kd.R_drewN | apply Kd.R_drew)); exact HO181.out), fun _ => (by (with_reducible repeat (first | apply Kd.R_alloc | apply Kd.R_drewN | apply Kd.R_drew)); exact HO184.out), fun _ => (by (with_reducible repeat (first | refine kN ?_ _ | refine kD ?_ | refine kA ?_ _)); exact BK178.out), Q_X0_, fun _ => rfl, fun h0_ => absurd ((hoff 6 (by kernel_rfl)).symm.trans h0_) (by decide)⟩
     refine steps_cons ?_ ?_
     ·rintro b a w' ⟨v175, gb178, v180, v183, m0_, m5_, m6_, ha, Q_BK172, Q_HB, Q_HO176, Q_BK178, Q_GW178, Q_GE178, Q_NB172_178, Q_NB178_172, Q_HO181, Q_HO184, Q_BK178_e5, Q_X0_, Q_X5_, Q_X6_⟩ hb_ hon hoff
      refine ⟨_, rfl, fun K hK => ?_⟩
      have e12 : a.tmps[12]? = some (m5_) := by rw [ha]; exact putSel_on (e := (5, 12, m5_)) 4 rfl rfl (hon 5 (by kernel_rfl)) rfl
      rw [Q_X5_ (hon 5 (by kernel_rfl))] at e12
      replace ha := Aside0.mk ha
      have BK172 := Aside0.mk Q_BK172
      have HB := Aside0.mk Q_HB
      have GW178 := Aside0.mk (Q_GW178 (hon 0 (by kernel_rfl)))
      have GE178 := Aside0.mk (Q_GE178 (hon 0 (by kernel_rfl)))
      have NB172_178 := Aside0.mk (Q_NB172_178 (hon 0 (by kernel_rfl)))
      have NB178_172 := Aside0.mk (Q_NB178_172 (hon 0 (by kernel_rfl)))
      have HO181 := Aside0.mk (Q_HO181 (hon 4 (by kernel_rfl)))
      have HO184 := Aside0.mk (Q_HO184 (hon 5 (by kernel_rfl)))
      have BK178 := Aside0.mk (Q_BK178_e5 (hon 5 (by kernel_rfl)))
      refine value_ (w1 := w') (v := .pointer (some ⟨gb178, 0, none⟩)) (by rfl) rfl ?_ ?_
      ·go_simp
       (try simp only [i64_w])
       try rfl
      refine hK.out _ _ ⟨v175, gb178, v180, v183, m0_, m5_, (.pointer (some ⟨gb178, 0, none⟩)), (by rw [ha.out]; exact putSel_upk 5 hb_ rfl rfl rfl), Q_BK172, Q_HB, fun _ h1_ => absurd ((hon 5 (by kernel_rfl)).symm.trans h1_) (by decide), fun _ h1_ => absurd ((hon 5 (by kernel_rfl)).symm.trans h1_) (by decide), Q_GW178, Q_GE178, Q_NB172_178, Q_NB178_172, Q_HO181, Q_HO184, Q_BK178_e5, Q_X0_, Q_X5_, fun _ => rfl⟩
     exact steps_nil
    rintro b a w22 hall ⟨v175, gb178, v180, v183, m0_, m5_, m6_, ha, Q_BK172, Q_HB, Q_HO176, Q_BK178, Q_GW178, Q_GE178, Q_NB172_178, Q_NB178_172, Q_HO181, Q_HO184, Q_BK178_e5, Q_X0_, Q_X5_, Q_X6_⟩
    clear BK172 HB
    have hb0_ := hall 0 (by kernel_rfl)
    have hb2_ := hall 2 (by kernel_rfl)
    have hb3_ := hall 3 (by kernel_rfl)
    have hb4_ := hall 4 (by kernel_rfl)
    have hb5_ := hall 5 (by kernel_rfl)
    have hb6_ := hall 6 (by kernel_rfl)
    subst ha
    obtain rfl := Q_X0_ hb0_
    obtain rfl := Q_X5_ hb5_
    obtain rfl := Q_X6_ hb6_
    simp only [putSel, hb0_, hb2_, hb3_, hb4_, hb5_, hb6_, if_true, Act.put, List.setIfInBounds_toArray, List.set_cons_zero, List.set_cons_succ]
    have BK172 := Aside0.mk Q_BK172
    clear Q_BK172
    have HB := Aside0.mk Q_HB
    clear Q_HB
    clear Q_HO176
    clear Q_BK178
    have GW178 := Aside0.mk (Q_GW178 hb0_)
    clear Q_GW178
    have GE178 := Aside0.mk (Q_GE178 hb0_)
    clear Q_GE178
    have NB172_178 := Aside0.mk (Q_NB172_178 hb0_)
    clear Q_NB172_178
    have NB178_172 := Aside0.mk (Q_NB178_172 hb0_)
    clear Q_NB178_172
    have HO181 := Aside0.mk (Q_HO181 hb4_)
    clear Q_HO181
    have HO184 := Aside0.mk (Q_HO184 hb5_)
    clear Q_HO184
    have BK178 := Aside0.mk (Q_BK178_e5 hb5_)
    clear Q_BK178_e5
    clear hall hb0_ hb2_ hb3_ hb4_ hb5_ hb6_
    have hnb23 := NB172_178.out
    have hnc23 := NB178_172.out
    obtain ⟨hcz24_0, hcz24_1, hcz24_2, hcz24_3, hcz24_4, hcz24_5, hcz24_6, hcz24_7, hcz24_8, hcz24_9, hcz24_10, hcz24_11, hcz24_12, hcz24_13, hcz24_14, hcz24_15, hfz24_0, hfz24_1, hfz24_2, hfz24_3, hfz24_4, hfz24_5, hfz24_6, hfz24_7, hfz24_8, hfz24_9, hfz24_10, hfz24_11, hfz24_12, hfz24_13, hfz24_14, hfz24_15⟩ := bxc16 BK172.out
    try go_wp2_with (first | ((with_reducible refine gate_callee (f := 26) rfl ?_); refine goesL_ (some 20) rfl rfl Try.func26 (by kernel_rfl) rfl #[.int .u8 a0_0] rfl (by (try simp only [List.map_toArray, List.map_cons, List.map_nil]); first | done | rfl | (simp only [List.length_drop, List.length_take]; rfl)) ?_; (with_reducible refine (order_subs.calls a0_0 true _ A6.out).mono ?_); rintro e w' ⟨rfl, ⟨nd, rfl⟩⟩; refine ⟨_, rfl, ?_⟩) | ((with_reducible refine gate_dst (N := 24) rfl ?_); refine Kd.R_lit (Kd.int .i64) _ 2 ?hg (N := 24) ?hd (xs := ([a0_1] : List Int)) (inner := [.int .i64 a0_1]) (ok := fun _ => True) (okp := fun _ => True) ?hr ?hp (fun _ hk => hk) trivial (Below.refl _ _) (Nat.le_refl _) (by simp) ?_; (case hd => rfl); (case hg => rfl); (case hr => first | (go_simp; done) | (go_simp; rfl)); (case hp => exact (Reps.one (show Kd.M (Kd.int .i64) _ _ _ a0_1 [.int .i64 a0_1] from rfl) (Reps.none _ _))); intro v188 w25 ho26 hb hg_ hnew_; clear hg_ hnew_; (first | rw [← Ny187.out] at ho26 | (simp only [Int.reduceToNat] at ho26; rw [← Ny187.out] at ho26)); have n0_ := Aside0.mk (Kd.R_elder' (by (with_reducible repeat (first | apply Kd.R_alloc | apply Kd.R_drewN | apply Kd.R_drew)); exact HO181.out) (Kd.R_base ho26) hb); have n1_ := Aside0.mk (Kd.R_below (by (with_reducible repeat (first | apply Kd.R_alloc | apply Kd.R_drewN | apply Kd.R_drew)); exact HO184.out) hb); have n2_ := Aside0.mk (Kd.R_lower (Kd.R_new' ho26 (Kd.R_lt (by (with_reducible repeat (first | apply Kd.R_alloc | apply Kd.R_drewN | apply Kd.R_drew)); exact HO181.out))) (below_size (by repeat (first | (with_reducible first | exact HB.out | apply kL | apply kM | apply kE | refine kS ?_ GE172.out | refine kS ?_ GE178.out) | exact HB.out)))); have n3_ := Aside0.mk (blk_below (g := gb172) (o := .cells #[.int .u8 a0_0, .int .i64 a0_1, .int .i64 a0_2, .int .i64 a0_3, .int .i64 a0_4, .int .u8 a0_5, .int .i64 a0_6, .int .i64 a0_7, .bool a0_8, .bool a0_9, .int .u8 a0_10, .int .i64 a0_11, .int .i64 a0_12, .int .i64 a0_13, .int .i64 a0_14, .int .u8 a0_15] 27 (0, 0)) (by (with_reducible repeat (first | refine kN ?_ _ | refine kD ?_ | refine kA ?_ _)); exact BK172.out) hb); have n4_ := Aside0.mk (blk_below (g := gb178) (o := .cells #[v183, .int .i64 t185] 60 (0, 0)) (by (with_reducible repeat (first | refine kN ?_ _ | refine kD ?_ | refine kA ?_ _)); exact BK178.out) hb); have n5_ := Aside0.mk (below_step (by repeat (first | (with_reducible first | exact HB.out | apply kL | apply kM | apply kE | refine kS ?_ GE172.out | refine kS ?_ GE178.out) | exact HB.out)) hb); clear HO181; clear HO184; clear BK172; clear BK178; clear HB; have HO181 := n0_; have HO184 := n1_; have HO189 := n2_; have BK172 := n3_; have BK178 := n4_; have HB := n5_; clear n0_ n1_ n2_ n3_ n4_ n5_; clear hb ho26; obtain ⟨Ao27, co27, eo27⟩ := Kd.R_slice HO189.out; subst eo27) | ((with_reducible refine gate_callee (f := 30) rfl ?_); refine goesL_ (some 25) rfl rfl Try.func30 (by kernel_rfl) rfl #[.pointer (some ⟨gb178, 0, none⟩), .slice Ao27 y187.length co27] rfl (by (try simp only [List.map_toArray, List.map_cons, List.map_nil]); first | done | rfl | (simp only [List.length_drop, List.length_take]; rfl)) ?_; (with_reducible refine (pack_Box_Put.calls k gb178 (fun k_ => some k_ = (v183 : Value).ownBlock) v183 t182 t185 _ _ y187 t190 t193 w _ ?side1 ?side2 ?side3 ?side4 ?side5 ?side6 A8.out).mono ?_); (case side1 => repeat (first | (with_reducible first | exact HB.out | apply kL | apply kM | apply kE | refine kS ?_ GE172.out | refine kS ?_ GE178.out) | exact HB.out)); (case side2 => exact (by (with_reducible repeat (first | refine kN ?_ _ | refine kD ?_ | refine kA ?_ _)); exact BK178.out)); (case side3 => exact GE178.out); (case side4 => exact Kd.R_tight rfl HO184.out); (case side5 => exact Kd.C_kept_own ((Kd.R_types (Kd.R_apart' HO189.out (Kd.R_typed HO184.out) (by decide)) BK178.out (by decide))) (fun k_ hk_ hs_ => Or.elim hs_ (fun hs_ => (hk_.1.2) hs_) (fun e_ => (hk_.2) e_))); (case side6 => exact (Kd.R_reads' HO189.out).2.1); rintro e w28 ⟨v191, rfl, ho0, hi, hb, hkp⟩; refine ⟨_, rfl, ?_⟩; have n0_ := Aside0.mk (blk_kept (by (with_reducible repeat (first | refine kN ?_ _ | refine kD ?_ | refine kA ?_ _)); exact BK172.out) hkp (fun hs_ => Or.elim hs_ (fun hs_ => (fun e_ => (Kd.R_ne HO184.out BK172.out (by decide)) e_) hs_) (fun e_ => NB172_178.out e_))); have n1_ := Aside0.mk (hi); have n2_ := Aside0.mk (Kd.R_mono (ok' := fun k_ => some k_ ≠ (.slice Ao27 y187.length co27 : Value).ownBlock) (Kd.R_keptB ((Kd.R_types (Kd.R_apart' HO181.out (Kd.R_typed HO184.out) (by decide)) BK178.out (by decide))) hkp (fun k_ hk_ hs_ => Or.elim hs_ (fun hs_ => (hk_.1.2) hs_) (fun e_ => (hk_.2) e_))) (fun k_ hk_ => hk_.1.1.1.2)); have n3_ := Aside0.mk (Kd.R_mono (ok' := fun k_ => some k_ ≠ (v180 : Value).ownBlock) (Kd.R_keptB ((Kd.R_types (Kd.R_apart' HO189.out (Kd.R_typed HO184.out) (by decide)) BK178.out (by decide))) hkp (fun k_ hk_ hs_ => Or.elim hs_ (fun hs_ => (hk_.1.2) hs_) (fun e_ => (hk_.2) e_))) (fun k_ hk_ => hk_.1.1.1.2)); have n4_ := Aside0.mk (Kd.R_mono (ok' := fun k_ => True) ho0 (fun k_ hk_ => trivial)); have n5_ := Aside0.mk (hb); clear BK172; clear BK178; clear HO181; clear HO189; clear HB; clear HO184; have BK172 := n0_; have BK178 := n1_; have HO181 := n2_; have HO189 := n3_; have HO192 := n4_; have HB := n5_; clear n0_ n1_ n2_ n3_ n4_ n5_; (try clear hb); (try clear hkp); (try clear hi); (try clear ho0); obtain ⟨hcz29_0, hcz29_1, hcz29_2, hcz29_3, hcz29_4, hcz29_5, hcz29_6, hcz29_7, hcz29_8, hcz29_9, hcz29_10, hcz29_11, hcz29_12, hcz29_13, hcz29_14, hcz29_15, hfz29_0, hfz29_1, hfz29_2, hfz29_3, hfz29_4, hfz29_5, hfz29_6, hfz29_7, hfz29_8, hfz29_9, hfz29_10, hfz29_11, hfz29_12, hfz29_13, hfz29_14, hfz29_15⟩ := bxc16 BK172.out) | ((with_reducible refine gate_callee (f := 27) rfl ?_); refine goesL_ (some 28) rfl rfl Try.func27 (by kernel_rfl) rfl #[.int .u8 a0_0] rfl (by (try simp only [List.map_toArray, List.map_cons, List.map_nil]); first | done | rfl | (simp only [List.length_drop, List.length_take]; rfl)) ?_; (with_reducible refine (order_plans.calls a0_0 true _ A9.out).mono ?_); rintro e w' ⟨rfl, ⟨nd, rfl⟩⟩; refine ⟨_, rfl, ?_⟩) | ((with_reducible refine gate_dst (N := 32) rfl ?_); refine Kd.R_lit (Kd.int .i64) _ 2 ?hg (N := 32) ?hd (xs := ([a0_2] : List Int)) (inner := [.int .i64 a0_2]) (ok := fun _ => True) (okp := fun _ => True) ?hr ?hp (fun _ hk => hk) trivial (Below.refl _ _) (Nat.le_refl _) (by simp) ?_; (case hd => rfl); (case hg => rfl); (case hr => first | (go_simp; done) | (go_simp; rfl)); (case hp => exact (Reps.one (show Kd.M (Kd.int .i64) _ _ _ a0_2 [.int .i64 a0_2] from rfl) (Reps.none _ _))); intro v196 w30 ho31 hb hg_ hnew_; clear hg_ hnew_; (first | rw [← Ny195.out] at ho31 | (simp only [Int.reduceToNat] at ho31; rw [← Ny195.out] at ho31)); have n0_ := Aside0.mk (Kd.R_elder' (by (with_reducible repeat (first | apply Kd.R_alloc | apply Kd.R_drewN | apply Kd.R_drew)); exact HO181.out) (Kd.R_base ho31) hb); have n1_ := Aside0.mk (Kd.R_elder' (by (with_reducible repeat (first | apply Kd.R_alloc | apply Kd.R_drewN | apply Kd.R_drew)); exact HO189.out) (Kd.R_base ho31) hb); have n2_ := Aside0.mk (Kd.R_below (by (with_reducible repeat (first | apply Kd.R_alloc | apply Kd.R_drewN | apply Kd.R_drew)); exact HO192.out) hb); have n3_ := Aside0.mk (Kd.R_lower (Kd.R_new' (Kd.R_new' ho31 (Kd.R_lt (by (with_reducible repeat (first | apply Kd.R_alloc | apply Kd.R_drewN | apply Kd.R_drew)); exact HO181.out))) (Kd.R_lt (by (with_reducible repeat (first | apply Kd.R_alloc | apply Kd.R_drewN | apply Kd.R_drew)); exact HO189.out))) (below_size (by repeat (first | (with_reducible first | exact HB.out | apply kL | apply kM | apply kE | refine kS ?_ GE172.out | refine kS ?_ GE178.out) | exact HB.out)))); have n4_ := Aside0.mk (blk_below (g := gb172) (o := .cells #[.int .u8 a0_0, .int .i64 a0_1, .int .i64 a0_2, .int .i64 a0_3, .int .i64 a0_4, .int .u8 a0_5, .int .i64 a0_6, .int .i64 a0_7, .bool a0_8, .bool a0_9, .int .u8 a0_10, .int .i64 a0_11, .int .i64 a0_12, .int .i64 a0_13, .int .i64 a0_14, .int .u8 a0_15] 27 (0, 0)) (by (with_reducible repeat (first | refine kN ?_ _ | refine kD ?_ | refine kA ?_ _)); exact BK172.out) hb); have n5_ := Aside0.mk (blk_below (g := gb178) (o := .cells #[v191, .int .i64 t193] 60 (0, 0)) (by (with_reducible repeat (first | refine kN ?_ _ | refine kD ?_ | refine kA ?_ _)); exact BK178.out) hb); have n6_ := Aside0.mk (below_step (by repeat (first | (with_reducible first | exact HB.out | apply kL | apply kM | apply kE | refine kS ?_ GE172.out | refine kS ?_ GE178.out) | exact HB.out)) hb); clear HO181; clear HO189; clear HO192; clear BK172; clear BK178; clear HB; have HO181 := n0_; have HO189 := n1_; have HO192 := n2_; have HO197 := n3_; have BK172 := n4_; have BK178 := n5_; have HB := n6_; clear n0_ n1_ n2_ n3_ n4_ n5_ n6_; clear hb ho31; obtain ⟨Ao32, co32, eo32⟩ := Kd.R_slice HO197.out; subst eo32) | ((with_reducible refine gate_callee (f := 30) rfl ?_); refine goesL_ (some 33) rfl rfl Try.func30 (by kernel_rfl) rfl #[.pointer (some ⟨gb178, 0, none⟩), .slice Ao32 y195.length co32] rfl (by (try simp only [List.map_toArray, List.map_cons, List.map_nil]); first | done | rfl | (simp only [List.length_drop, List.length_take]; rfl)) ?_; (with_reducible refine (pack_Box_Put.calls k gb178 (fun k_ => some k_ = (v191 : Value).ownBlock) v191 t190 t193 _ _ y195 t198 t201 w _ ?side1 ?side2 ?side3 ?side4 ?side5 ?side6 A11.out).mono ?_); (case side1 => repeat (first | (with_reducible first | exact HB.out | apply kL | apply kM | apply kE | refine kS ?_ GE172.out | refine kS ?_ GE178.out) | exact HB.out)); (case side2 => exact (by (with_reducible repeat (first | refine kN ?_ _ | refine kD ?_ | refine kA ?_ _)); exact BK178.out)); (case side3 => exact GE178.out); (case side4 => exact Kd.R_tight rfl HO192.out); (case side5 => exact Kd.C_kept_own ((Kd.R_types (Kd.R_apart' HO197.out (Kd.R_typed HO192.out) (by decide)) BK178.out (by decide))) (fun k_ hk_ hs_ => Or.elim hs_ (fun hs_ => (hk_.1.2) hs_) (fun e_ => (hk_.2) e_))); (case side6 => exact (Kd.R_reads' HO197.out).2.1); rintro e w33 ⟨v199, rfl, ho0, hi, hb, hkp⟩; refine ⟨_, rfl, ?_⟩; have n0_ := Aside0.mk (blk_kept (by (with_reducible repeat (first | refine kN ?_ _ | refine kD ?_ | refine kA ?_ _)); exact BK172.out) hkp (fun hs_ => Or.elim hs_ (fun hs_ => (fun e_ => (Kd.R_ne HO192.out BK172.out (by decide)) e_) hs_) (fun e_ => NB172_178.out e_))); have n1_ := Aside0.mk (hi); have n2_ := Aside0.mk (Kd.R_mono (ok' := fun k_ => some k_ ≠ (.slice Ao27 y187.length co27 : Value).ownBlock ∧ some k_ ≠ (.slice Ao32 y195.length co32 : Value).ownBlock) (Kd.R_keptB ((Kd.R_types (Kd.R_apart' HO181.out (Kd.R_typed HO192.out) (by decide)) BK178.out (by decide))) hkp (fun k_ hk_ hs_ => Or.elim hs_ (fun hs_ => (hk_.1.2) hs_) (fun e_ => (hk_.2) e_))) (fun k_ hk_ => ⟨hk_.1.1.1.1, hk_.1.1.1.2⟩)); have n3_ := Aside0.mk (Kd.R_mono (ok' := fun k_ => some k_ ≠ (v180 : Value).ownBlock ∧ some k_ ≠ (.slice Ao32 y195.length co32 : Value).ownBlock) (Kd.R_keptB ((Kd.R_types (Kd.R_apart' HO189.out (Kd.R_typed HO192.out) (by decide)) BK178.out (by decide))) hkp (fun k_ hk_ hs_ => Or.elim hs_ (fun hs_ => (hk_.1.2) hs_) (fun e_ => (hk_.2) e_))) (fun k_ hk_ => ⟨hk_.1.1.1.1, hk_.1.1.1.2⟩)); have n4_ := Aside0.mk (Kd.R_mono (ok' := fun k_ => some k_ ≠ (v180 : Value).ownBlock ∧ some k_ ≠ (.slice Ao27 y187.length co27 : Value).ownBlock) (Kd.R_keptB ((Kd.R_types (Kd.R_apart' HO197.out (Kd.R_typed HO192.out) (by decide)) BK178.out (by decide))) hkp (fun k_ hk_ hs_ => Or.elim hs_ (fun hs_ => (hk_.1.2) hs_) (fun e_ => (hk_.2) e_))) (fun k_ hk_ => ⟨hk_.1.1.1.1.2, hk_.1.1.1.2⟩)); have n5_ := Aside0.mk (Kd.R_mono (ok' := fun k_ => True) ho0 (fun k_ hk_ => trivial)); have n6_ := Aside0.mk (hb); clear BK172; clear BK178; clear HO181; clear HO189; clear HO197; clear HB; clear HO192; have BK172 := n0_; have BK178 := n1_; have HO181 := n2_; have HO189 := n3_; have HO197 := n4_; have HO200 := n5_; have HB := n6_; clear n0_ n1_ n2_ n3_ n4_ n5_ n6_; (try clear hb); (try clear hkp); (try clear hi); (try clear ho0)) | ((with_reducible refine gate_callee (f := 20) rfl ?_); refine goesL_ (some 52) rfl rfl Try.func20 (by kernel_rfl) rfl #[.pointer (some ⟨gb178, 0, none⟩)] rfl (by (try simp only [List.map_toArray, List.map_cons, List.map_nil]); first | done | rfl | (simp only [List.length_drop, List.length_take]; rfl)) ?_; (with_reducible refine (pack_Box_Done.calls gb178 (fun k_ => some k_ = (v199 : Value).ownBlock) v199 t198 t201 t202 t205 t208 w _ ?side1 ?side2 ?side3 ?side4 A12.out).mono ?_); (case side1 => repeat (first | (with_reducible first | exact HB.out | apply kL | apply kM | apply kE | refine kS ?_ GE172.out | refine kS ?_ GE178.out) | exact HB.out)); (case side2 => exact (by (with_reducible repeat (first | refine kN ?_ _ | refine kD ?_ | refine kA ?_ _)); exact BK178.out)); (case side3 => exact GE178.out); (case side4 => exact Kd.R_tight rfl HO200.out); rintro e w34 ⟨v203, v206, rfl, ho0, ho1, hi, hb, hkp⟩; refine ⟨_, rfl, ?_⟩; have n0_ := Aside0.mk (blk_kept (by (with_reducible repeat (first | refine kN ?_ _ | refine kD ?_ | refine kA ?_ _)); exact BK172.out) hkp (fun hs_ => Or.elim hs_ (fun hs_ => (fun e_ => (Kd.R_ne HO200.out BK172.out (by decide)) e_) hs_) (fun e_ => NB172_178.out e_))); have n1_ := Aside0.mk (hi); have n2_ := Aside0.mk (Kd.R_mono (ok' := fun k_ => some k_ ≠ (.slice Ao27 y187.length co27 : Value).ownBlock ∧ some k_ ≠ (.slice Ao32 y195.length co32 : Value).ownBlock) (Kd.R_keptB ((Kd.R_types (Kd.R_apart' HO181.out (Kd.R_typed HO200.out) (by decide)) BK178.out (by decide))) hkp (fun k_ hk_ hs_ => Or.elim hs_ (fun hs_ => (hk_.1.2) hs_) (fun e_ => (hk_.2) e_))) (fun k_ hk_ => ⟨hk_.1.1.1.1, hk_.1.1.1.2⟩)); have n3_ := Aside0.mk (Kd.R_mono (ok' := fun k_ => some k_ ≠ (v180 : Value).ownBlock ∧ some k_ ≠ (.slice Ao32 y195.length co32 : Value).ownBlock) (Kd.R_keptB ((Kd.R_types (Kd.R_apart' HO189.out (Kd.R_typed HO200.out) (by decide)) BK178.out (by decide))) hkp (fun k_ hk_ hs_ => Or.elim hs_ (fun hs_ => (hk_.1.2) hs_) (fun e_ => (hk_.2) e_))) (fun k_ hk_ => ⟨hk_.1.1.1.1, hk_.1.1.1.2⟩)); have n4_ := Aside0.mk (Kd.R_mono (ok' := fun k_ => some k_ ≠ (v180 : Value).ownBlock ∧ some k_ ≠ (.slice Ao27 y187.length co27 : Value).ownBlock) (Kd.R_keptB ((Kd.R_types (Kd.R_apart' HO197.out (Kd.R_typed HO200.out) (by decide)) BK178.out (by decide))) hkp (fun k_ hk_ hs_ => Or.elim hs_ (fun hs_ => (hk_.1.2) hs_) (fun e_ => (hk_.2) e_))) (fun k_ hk_ => ⟨hk_.1.1.1.1, hk_.1.1.1.2⟩)); have n5_ := Aside0.mk (Kd.R_mono (ok' := fun k_ => some k_ ≠ (v206 : Value).ownBlock) ho0 (fun k_ hk_ => hk_.2)); have n6_ := Aside0.mk (Kd.R_mono (ok' := fun k_ => some k_ ≠ (v203 : Value).ownBlock) ho1 (fun k_ hk_ => hk_.2)); have n7_ := Aside0.mk (hb); clear BK172; clear BK178; clear HO181; clear HO189; clear HO197; clear HB; clear HO200; have BK172 := n0_; have BK178 := n1_; have HO181 := n2_; have HO189 := n3_; have HO197 := n4_; have HO204 := n5_; have HO207 := n6_; have HB := n7_; clear n0_ n1_ n2_ n3_ n4_ n5_ n6_ n7_; (try clear hb); (try clear hkp); (try clear hi); (try clear ho0); (try clear ho1)))
    go_ret
    exact ⟨_, by first | rfl | (simp [errW_none, errW_some] <;> rfl) | (simp [*, errW_none, errW_some] <;> rfl), by (with_reducible repeat (first | apply Kd.R_alloc | apply Kd.R_drewN | apply Kd.R_drew)); exact Kd.R_mono HO204.out (fun _ hk => trivial), by repeat (first | (with_reducible first | exact HB.out | apply kL | apply kM | apply kE | refine kS ?_ GE172.out | refine kS ?_ GE178.out) | exact HB.out)⟩
   ·replace c10 := Bool.eq_false_iff.mpr c10
    subst c10
    have H1 : ((pack_Box_Done.f t190 t193).bind fun bt209 => (some bt209.1)) = some r := by rw [if_neg (show ¬ (false = true) by decide)] at H; try exact H
    clear H
    have H := H1
    clear H1
    replace H := Option.bind_eq_some_iff.mp H
    obtain ⟨⟨t209, t212, t215⟩, A350, H⟩ := H
    replace H : (some t209) = some r := H
    have A35 := Aside0.mk A350
    clear A350
    obtain rfl := Option.some.inj H
    go_enter Try.func15, Try.ntmps15
    try go_wp2_with (first | ((with_reducible refine gate_dst (N := 1) rfl ?_); refine box_event ?hg (N := 1) ?hd (cs := #[.int .u8 a0_0, .int .i64 a0_1, .int .i64 a0_2, .int .i64 a0_3, .int .i64 a0_4, .int .u8 a0_5, .int .i64 a0_6, .int .i64 a0_7, .bool a0_8, .bool a0_9, .int .u8 a0_10, .int .i64 a0_11, .int .i64 a0_12, .int .i64 a0_13, .int .i64 a0_14, .int .u8 a0_15]) (t := 27) ?hr ?_; (case hd => rfl); (case hg => rfl); (case hr => first | (go_simp; done) | (go_simp; rfl)); intro gb172 hg w36 hbox hb; have n0_ := Aside0.mk (below_step (by repeat (first | (with_reducible first | exact HB.out | apply kL | apply kM | apply kE) | exact HB.out)) hb); have n1_ := Aside0.mk (hbox); have n2_ := Aside0.mk ((by rw [hg]; exact (below_size (by repeat (first | (with_reducible first | exact HB.out | apply kL | apply kM | apply kE) | exact HB.out))) : w.heap.size ≤ gb172)); have n3_ := Aside0.mk ((by rw [hg]; exact (below_size (by repeat (first | (with_reducible first | exact HB.out | apply kL | apply kM | apply kE) | exact HB.out))) : w.heap.size ≤ gb172)); clear HB; have HB := n0_; have BK172 := n1_; have GW172 := n2_; have GE172 := n3_; clear n0_ n1_ n2_ n3_; clear hb hbox hg; obtain ⟨hcz37_0, hcz37_1, hcz37_2, hcz37_3, hcz37_4, hcz37_5, hcz37_6, hcz37_7, hcz37_8, hcz37_9, hcz37_10, hcz37_11, hcz37_12, hcz37_13, hcz37_14, hcz37_15, hfz37_0, hfz37_1, hfz37_2, hfz37_3, hfz37_4, hfz37_5, hfz37_6, hfz37_7, hfz37_8, hfz37_9, hfz37_10, hfz37_11, hfz37_12, hfz37_13, hfz37_14, hfz37_15⟩ := bxc16 BK172.out) | ((with_reducible refine gate_dst (N := 4) rfl ?_); refine wpList_load_row rfl 27 (.tmp 1) rfl gb172 rfl 27 #[.int .u8 a0_0, .int .i64 a0_1, .int .i64 a0_2, .int .i64 a0_3, .int .i64 a0_4, .int .u8 a0_5, .int .i64 a0_6, .int .i64 a0_7, .bool a0_8, .bool a0_9, .int .u8 a0_10, .int .i64 a0_11, .int .i64 a0_12, .int .i64 a0_13, .int .i64 a0_14, .int .u8 a0_15] (0, 0) _ (by (with_reducible repeat (first | refine kN ?_ _ | refine kD ?_ | refine kA ?_ _)); exact BK172.out) Try.underlying27 rfl (by kernel_rfl) ?_) | ((with_reducible refine gate_callee (f := 11) rfl ?_); refine goesL_ (some 5) rfl rfl Try.func11 (by kernel_rfl) rfl #[.agg #[.int .u8 a0_0, .int .i64 a0_1, .int .i64 a0_2, .int .i64 a0_3, .int .i64 a0_4, .int .u8 a0_5, .int .i64 a0_6, .int .i64 a0_7, .bool a0_8, .bool a0_9, .int .u8 a0_10, .int .i64 a0_11, .int .i64 a0_12, .int .i64 a0_13, .int .i64 a0_14, .int .u8 a0_15]] rfl (by (try simp only [List.map_toArray, List.map_cons, List.map_nil]); first | done | rfl | (simp only [List.length_drop, List.length_take]; rfl)) ?_; (with_reducible refine (order_Right.calls k a0_0 a0_1 a0_2 a0_3 a0_4 a0_5 a0_6 a0_7 a0_8 a0_9 a0_10 a0_11 a0_12 a0_13 a0_14 a0_15 t173 _ A2.out).mono ?_); rintro e w38 ⟨rfl, hb⟩; refine ⟨_, rfl, ?_⟩; have n0_ := Aside0.mk (blk_below (g := gb172) (o := .cells #[.int .u8 a0_0, .int .i64 a0_1, .int .i64 a0_2, .int .i64 a0_3, .int .i64 a0_4, .int .u8 a0_5, .int .i64 a0_6, .int .i64 a0_7, .bool a0_8, .bool a0_9, .int .u8 a0_10, .int .i64 a0_11, .int .i64 a0_12, .int .i64 a0_13, .int .i64 a0_14, .int .u8 a0_15] 27 (0, 0)) (by (with_reducible repeat (first | refine kN ?_ _ | refine kD ?_ | refine kA ?_ _)); exact BK172.out) hb); have n1_ := Aside0.mk (below_step (by repeat (first | (with_reducible first | exact HB.out | apply kL | apply kM | apply kE | refine kS ?_ GE172.out) | exact HB.out)) hb); clear BK172; clear HB; have BK172 := n0_; have HB := n1_; clear n0_ n1_; (try clear hb); (try clear hb2); (try clear hk); (try clear hi)))
    have n0_ := Aside0.mk (kD BK172.out)
    have n1_ := Aside0.mk (kE HB.out)
    clear BK172
    clear HB
    have BK172 := n0_
    have HB := n1_
    clear n0_ n1_
    refine start_ (n := 7) (S := fun w' => True) (ds := []) #[false, false, false, false, false, false, false] (by kernel_rfl) rfl rfl trivial (fun hHeld => ?_); refine with_tabW order_Encode.tab3 order_Encode.bits3 (fun HT_ HW_ => ?_)
    generalize w38.drew = w39 at BK172 HB hHeld ⊢
    refine pure_ (i := 1) (N := some 8) (v := ?_) (a' := ?_) #[false, true, false, false, false, false, false] rfl rfl (any_of HT_.out (by kernel_rfl)) (fun _ _ _ h => h) (Or.inl ⟨by rfl, ?_⟩) ?_ ?_
    rotate_left
    ·intro w'
     go_simp
     with_reducible rfl
    rotate_left
    ·simp only [Act.put, List.setIfInBounds_toArray, List.set_cons_zero, List.set_cons_succ, i64_w, i32_w]
     rfl
    refine inv_at [0, 2, 3, 4, 5, 6] (fun a0_ b a w' => ∃ (v175 : Value) (gb178 : Nat) (v180 : Value) (v183 : Value) (m0_ : Value) (m5_ : Value) (m6_ : Value), a = putSel a0_ b [(0, 7, m0_), (2, 9, .int .u8 a0_0), (3, 10, .int .i64 (wrap64 (a0_0))), (4, 11, v180), (5, 12, m5_), (6, 3, m6_)] ∧ (w'.heap[gb172]? = some (.cells #[.int .u8 a0_0, .int .i64 a0_1, .int .i64 a0_2, .int .i64 a0_3, .int .i64 a0_4, .int .u8 a0_5, .int .i64 a0_6, .int .i64 a0_7, .bool a0_8, .bool a0_9, .int .u8 a0_10, .int .i64 a0_11, .int .i64 a0_12, .int .i64 a0_13, .int .i64 a0_14, .int .u8 a0_15] 27 (0, 0))) ∧ (Below w.heap.size w w') ∧ (b 0 = true → b 5 = false → Kd.R (Kd.int .u8) 5 w' w.heap.size (fun _ => True) v175 t174) ∧ (b 0 = true → b 5 = false → w'.heap[gb178]? = some (.cells #[v175, .int .i64 t177] 60 (0, 0))) ∧ (b 0 = true → w.heap.size ≤ gb178) ∧ (b 0 = true → w.heap.size ≤ gb178) ∧ (b 0 = true → gb172 ≠ gb178) ∧ (b 0 = true → gb178 ≠ gb172) ∧ (b 4 = true → Kd.R (Kd.int .i64) 2 w' w.heap.size (fun _ => True) v180 y179) ∧ (b 5 = true → Kd.R (Kd.int .u8) 5 w' w.heap.size (fun _ => True) v183 t182) ∧ (b 5 = true → w'.heap[gb178]? = some (.cells #[v183, .int .i64 t185] 60 (0, 0))) ∧ (b 0 = true → (m0_ : Value) = .pointer (some ⟨gb178, 0, none⟩)) ∧ (b 5 = true → (m5_ : Value) = .pointer (some ⟨gb178, 0, none⟩)) ∧ (b 6 = true → (m6_ : Value) = .pointer (some ⟨gb178, 0, none⟩))) HT_.out HW_.out (by kernel_rfl) (by kernel_rfl) ?_ ?_ ?_
    ·exact ⟨.bool false, 0, .bool false, .bool false, .bool false, .bool false, .bool false, by simp only [putSel, Bool.false_eq_true, if_false], BK172.out, HB.out, fun h_ => absurd h_ (by decide), fun h_ => absurd h_ (by decide), fun h_ => absurd h_ (by decide), fun h_ => absurd h_ (by decide), fun h_ => absurd h_ (by decide), fun h_ => absurd h_ (by decide), fun h_ => absurd h_ (by decide), fun h_ => absurd h_ (by decide), fun h_ => absurd h_ (by decide), fun h_ => absurd h_ (by decide), fun h_ => absurd h_ (by decide), fun h_ => absurd h_ (by decide)⟩
    ·skip
     clear BK172 HB
     refine steps_cons ?_ ?_
     ·rintro b a w' ⟨v175, gb178, v180, v183, m0_, m5_, m6_, ha, Q_BK172, Q_HB, Q_HO176, Q_BK178, Q_GW178, Q_GE178, Q_NB172_178, Q_NB178_172, Q_HO181, Q_HO184, Q_BK178_e5, Q_X0_, Q_X5_, Q_X6_⟩ hb_ hon hoff
      refine ⟨_, rfl, fun K hK => ?_⟩
      replace ha := Aside0.mk ha
      have BK172 := Aside0.mk Q_BK172
      have HB := Aside0.mk Q_HB
      refine goes_ Try.func17 (by kernel_rfl) rfl #[] (by rfl) rfl rfl (by first | (simp only [List.map_toArray, List.map_cons, List.map_nil, Act.eval, Array.getD_eq_getD_getElem?, Option.getD_some]; done) | (simp only [List.map_toArray, List.map_cons, List.map_nil, Act.eval, Array.getD_eq_getD_getElem?, Option.getD_some]; rfl)) ?_
      with_reducible refine (pack_New.calls  t174 t177 _ A4.out).mono ?_
      rintro e w40 ⟨v175, gb178, rfl, ho0, hnb178, hnl178, hb⟩
      refine ⟨_, rfl, ?_⟩
      have n0_ := Aside0.mk (Kd.R_lower ho0 (below_size (by repeat (first | (with_reducible first | exact HB.out | apply kL | apply kM | apply kE | refine kS ?_ GE172.out) | exact HB.out))))
      have n1_ := Aside0.mk (blk_below (g := gb172) (o := .cells #[.int .u8 a0_0, .int .i64 a0_1, .int .i64 a0_2, .int .i64 a0_3, .int .i64 a0_4, .int .u8 a0_5, .int .i64 a0_6, .int .i64 a0_7, .bool a0_8, .bool a0_9, .int .u8 a0_10, .int .i64 a0_11, .int .i64 a0_12, .int .i64 a0_13, .int .i64 a0_14, .int .u8 a0_15] 27 (0, 0)) (by (with_reducible repeat (first | refine kN ?_ _ | refine kD ?_ | refine kA ?_ _)); exact BK172.out) hb)
      have n2_ := Aside0.mk (hnb178)
      have n3_ := Aside0.mk ((Nat.le_trans (below_size (by repeat (first | (with_reducible first | exact HB.out | apply kL | apply kM | apply kE | refine kS ?_ GE172.out) | exact HB.out))) hnl178 : w.heap.size ≤ gb178))
      have n4_ := Aside0.mk ((Nat.le_trans (below_size (by repeat (first | (with_reducible first | exact HB.out | apply kL | apply kM | apply kE | refine kS ?_ GE172.out) | exact HB.out))) hnl178 : w.heap.size ≤ gb178))
      have n5_ := Aside0.mk ((Nat.ne_of_lt (Nat.lt_of_lt_of_le (blk_lt (g := gb172) (o := .cells #[.int .u8 a0_0, .int .i64 a0_1, .int .i64 a0_2, .int .i64 a0_3, .int .i64 a0_4, .int .u8 a0_5, .int .i64 a0_6, .int .i64 a0_7, .bool a0_8, .bool a0_9, .int .u8 a0_10, .int .i64 a0_11, .int .i64 a0_12, .int .i64 a0_13, .int .i64 a0_14, .int .u8 a0_15] 27 (0, 0)) (by (with_reducible repeat (first | refine kN ?_ _ | refine kD ?_ | refine kA ?_ _)); exact BK172.out)) hnl178) : gb172 ≠ gb178))
      have n6_ := Aside0.mk ((Nat.ne_of_gt (Nat.lt_of_lt_of_le (blk_lt (g := gb172) (o := .cells #[.int .u8 a0_0, .int .i64 a0_1, .int .i64 a0_2, .int .i64 a0_3, .int .i64 a0_4, .int .u8 a0_5, .int .i64 a0_6, .int .i64 a0_7, .bool a0_8, .bool a0_9, .int .u8 a0_10, .int .i64 a0_11, .int .i64 a0_12, .int .i64 a0_13, .int .i64 a0_14, .int .u8 a0_15] 27 (0, 0)) (by (with_reducible repeat (first | refine kN ?_ _ | refine kD ?_ | refine kA ?_ _)); exact BK172.out)) hnl178) : gb178 ≠ gb172))
      have n7_ := Aside0.mk (below_step (by repeat (first | (with_reducible first | exact HB.out | apply kL | apply kM | apply kE | refine kS ?_ GE172.out) | exact HB.out)) hb)
      have z_HO181 := fun (h0_ : b 4 = true) => (show Kd.R (Kd.int .i64) 2 w40 w.heap.size (fun _ => True) v180 y179 from by first | exact (Kd.R_below (by (with_reducible repeat (first | apply Kd.R_alloc | apply Kd.R_drewN | apply Kd.R_drew)); exact (Q_HO181 h0_)) hb) | exact Kd.R_mono (Kd.R_below (by (with_reducible repeat (first | apply Kd.R_alloc | apply Kd.R_drewN | apply Kd.R_drew)); exact (Q_HO181 h0_)) hb) (fun _ h_ => by first | trivial | exact h_ | exact h_.1))
      clear BK172
      clear HB
      have HO176 := n0_
      have BK172 := n1_
      have BK178 := n2_
      have GW178 := n3_
      have GE178 := n4_
      have NB172_178 := n5_
      have NB178_172 := n6_
      have HB := n7_
      clear n0_ n1_ n2_ n3_ n4_ n5_ n6_ n7_
      (try clear hb)
      (try clear hb2)
      (try clear hk)
      (try clear hi)
      (try clear ho0)
      refine hK.out _ _ ⟨v175, gb178, v180, v183, (.pointer (some ⟨gb178, 0, none⟩)), m5_, m6_, (by rw [ha.out]; exact putSel_upk 0 hb_ rfl rfl rfl), (by (with_reducible repeat (first | refine kN ?_ _ | refine kD ?_ | refine kA ?_ _)); exact BK172.out), (by repeat (first | (with_reducible first | exact HB.out | apply kL | apply kM | apply kE | refine kS ?_ GE172.out | refine kS ?_ GE178.out) | exact HB.out)), fun _ _ => (by (with_reducible repeat (first | apply Kd.R_alloc | apply Kd.R_drewN | apply Kd.R_drew)); exact HO176.out), fun _ _ => (by (with_reducible repeat (first | refine kN ?_ _ | refine kD ?_ | refine kA ?_ _)); exact BK178.out), fun _ => GW178.out, fun _ => GE178.out, fun _ => NB172_178.out, fun _ => NB178_172.out, z_HO181, fun h0_ => absurd ((hoff 5 (by kernel_rfl)).symm.trans h0_) (by decide), fun h0_ => absurd ((hoff 5 (by kernel_rfl)).symm.trans h0_) (by decide), fun _ => rfl, fun h0_ => absurd ((hoff 5 (by kernel_rfl)).symm.trans h0_) (by decide), fun h0_ => absurd ((hoff 6 (by kernel_rfl)).symm.trans h0_) (by decide)⟩
     refine steps_cons ?_ ?_
     ·rintro b a w' ⟨v175, gb178, v180, v183, m0_, m5_, m6_, ha, Q_BK172, Q_HB, Q_HO176, Q_BK178, Q_GW178, Q_GE178, Q_NB172_178, Q_NB178_172, Q_HO181, Q_HO184, Q_BK178_e5, Q_X0_, Q_X5_, Q_X6_⟩ hb_ hon hoff
      refine ⟨_, rfl, fun K hK => ?_⟩
      have e8 : a.tmps[8]? = some (.pointer (some ⟨gb172, 0, none⟩)) := by rw [ha]; exact (putSel_off rfl).trans rfl
      replace ha := Aside0.mk ha
      have BK172 := Aside0.mk Q_BK172
      have HB := Aside0.mk Q_HB
      have hc0_ : w'.cell? ⟨gb172, 0, none⟩ = some (.int .u8 a0_0) := (kC BK172.out 0).trans rfl
      have hc1_ : w'.cell? ⟨gb172, 1, none⟩ = some (.int .i64 a0_1) := (kC BK172.out 1).trans rfl
      have hc2_ : w'.cell? ⟨gb172, 2, none⟩ = some (.int .i64 a0_2) := (kC BK172.out 2).trans rfl
      have hc3_ : w'.cell? ⟨gb172, 3, none⟩ = some (.int .i64 a0_3) := (kC BK172.out 3).trans rfl
      have hc4_ : w'.cell? ⟨gb172, 4, none⟩ = some (.int .i64 a0_4) := (kC BK172.out 4).trans rfl
      have hc5_ : w'.cell? ⟨gb172, 5, none⟩ = some (.int .u8 a0_5) := (kC BK172.out 5).trans rfl
      have hc6_ : w'.cell? ⟨gb172, 6, none⟩ = some (.int .i64 a0_6) := (kC BK172.out 6).trans rfl
      have hc7_ : w'.cell? ⟨gb172, 7, none⟩ = some (.int .i64 a0_7) := (kC BK172.out 7).trans rfl
      have hc8_ : w'.cell? ⟨gb172, 8, none⟩ = some (.bool a0_8) := (kC BK172.out 8).trans rfl
      have hc9_ : w'.cell? ⟨gb172, 9, none⟩ = some (.bool a0_9) := (kC BK172.out 9).trans rfl
      have hc10_ : w'.cell? ⟨gb172, 10, none⟩ = some (.int .u8 a0_10) := (kC BK172.out 10).trans rfl
      have hc11_ : w'.cell? ⟨gb172, 11, none⟩ = some (.int .i64 a0_11) := (kC BK172.out 11).trans rfl
      have hc12_ : w'.cell? ⟨gb172, 12, none⟩ = some (.int .i64 a0_12) := (kC BK172.out 12).trans rfl
      have hc13_ : w'.cell? ⟨gb172, 13, none⟩ = some (.int .i64 a0_13) := (kC BK172.out 13).trans rfl
      have hc14_ : w'.cell? ⟨gb172, 14, none⟩ = some (.int .i64 a0_14) := (kC BK172.out 14).trans rfl
      have hc15_ : w'.cell? ⟨gb172, 15, none⟩ = some (.int .u8 a0_15) := (kC BK172.out 15).trans rfl
      refine value_ (w1 := w') (v := .int .u8 a0_0) (by rfl) rfl ?_ ?_
      ·go_simp
       (try simp only [i64_w])
       try rfl
      refine hK.out _ _ ⟨v175, gb178, v180, v183, m0_, m5_, m6_, (by rw [ha.out]; exact putSel_upk 1 hb_ rfl rfl rfl), Q_BK172, Q_HB, Q_HO176, Q_BK178, Q_GW178, Q_GE178, Q_NB172_178, Q_NB178_172, fun h0_ => absurd ((hoff 4 (by kernel_rfl)).symm.trans h0_) (by decide), fun h0_ => absurd ((hoff 5 (by kernel_rfl)).symm.trans h0_) (by decide), fun h0_ => absurd ((hoff 5 (by kernel_rfl)).symm.trans h0_) (by decide), Q_X0_, fun h0_ => absurd ((hoff 5 (by kernel_rfl)).symm.trans h0_) (by decide), fun h0_ => absurd ((hoff 6 (by kernel_rfl)).symm.trans h0_) (by decide)⟩
     refine steps_cons ?_ ?_
     ·rintro b a w' ⟨v175, gb178, v180, v183, m0_, m5_, m6_, ha, Q_BK172, Q_HB, Q_HO176, Q_BK178, Q_GW178, Q_GE178, Q_NB172_178, Q_NB178_172, Q_HO181, Q_HO184, Q_BK178_e5, Q_X0_, Q_X5_, Q_X6_⟩ hb_ hon hoff
      refine ⟨_, rfl, fun K hK => ?_⟩
      have e9 : a.tmps[9]? = some (.int .u8 a0_0) := by rw [ha]; exact putSel_on (e := (2, 9, .int .u8 a0_0)) 1 rfl rfl (hon 2 (by kernel_rfl)) rfl
      replace ha := Aside0.mk ha
      have BK172 := Aside0.mk Q_BK172
      have HB := Aside0.mk Q_HB
      refine value_ (w1 := w') (v := .int .i64 (wrap64 (a0_0))) (by rfl) rfl ?_ ?_
      ·go_simp
       (try simp only [i64_w])
       try rfl
      refine hK.out _ _ ⟨v175, gb178, v180, v183, m0_, m5_, m6_, (by rw [ha.out]; exact putSel_upk 2 hb_ rfl rfl rfl), Q_BK172, Q_HB, Q_HO176, Q_BK178, Q_GW178, Q_GE178, Q_NB172_178, Q_NB178_172, fun h0_ => absurd ((hoff 4 (by kernel_rfl)).symm.trans h0_) (by decide), fun h0_ => absurd ((hoff 5 (by kernel_rfl)).symm.trans h0_) (by decide), fun h0_ => absurd ((hoff 5 (by kernel_rfl)).symm.trans h0_) (by decide), Q_X0_, fun h0_ => absurd ((hoff 5 (by kernel_rfl)).symm.trans h0_) (by decide), fun h0_ => absurd ((hoff 6 (by kernel_rfl)).symm.trans h0_) (by decide)⟩
     refine steps_cons ?_ ?_
     ·rintro b a w' ⟨v175, gb178, v180, v183, m0_, m5_, m6_, ha, Q_BK172, Q_HB, Q_HO176, Q_BK178, Q_GW178, Q_GE178, Q_NB172_178, Q_NB178_172, Q_HO181, Q_HO184, Q_BK178_e5, Q_X0_, Q_X5_, Q_X6_⟩ hb_ hon hoff
      refine ⟨_, rfl, fun K hK => ?_⟩
      have e10 : a.tmps[10]? = some (.int .i64 (wrap64 (a0_0))) := by rw [ha]; exact putSel_on (e := (3, 10, .int .i64 (wrap64 (a0_0)))) 2 rfl rfl (hon 3 (by kernel_rfl)) rfl
      replace ha := Aside0.mk ha
      have BK172 := Aside0.mk Q_BK172
      have HB := Aside0.mk Q_HB
      refine Kd.R_lit_step (Kd.int .i64) _ 2 ?hg (N := 11) ?hd (xs := ([wrap64 (a0_0)] : List Int)) (inner := [.int .i64 (wrap64 (a0_0))]) (ok := fun _ => True) (okp := fun _ => True) ?hr ?hp (fun _ hk => hk) trivial (Below.refl _ _) (Nat.le_refl _) (by simp) ?_; (case hd => rfl); (case hg => rfl); (case hr => first | (go_simp; done) | (go_simp; rfl)); (case hp => exact (Reps.one (show Kd.M (Kd.int .i64) _ _ _ (wrap64 (a0_0)) [.int .i64 (wrap64 (a0_0))] from rfl) (Reps.none _ _)))
      intro v180 w40 ho41 hb hg_ hnew_
      clear hg_ hnew_
      (first | rw [← Ny179.out] at ho41 | (simp only [Int.reduceToNat] at ho41; rw [← Ny179.out] at ho41))
      have n0_ := Aside0.mk (Kd.R_lower ho41 (below_size (by repeat (first | (with_reducible first | exact HB.out | apply kL | apply kM | apply kE | refine kS ?_ GE172.out) | exact HB.out))))
      have n1_ := Aside0.mk (blk_below (g := gb172) (o := .cells #[.int .u8 a0_0, .int .i64 a0_1, .int .i64 a0_2, .int .i64 a0_3, .int .i64 a0_4, .int .u8 a0_5, .int .i64 a0_6, .int .i64 a0_7, .bool a0_8, .bool a0_9, .int .u8 a0_10, .int .i64 a0_11, .int .i64 a0_12, .int .i64 a0_13, .int .i64 a0_14, .int .u8 a0_15] 27 (0, 0)) (by (with_reducible repeat (first | refine kN ?_ _ | refine kD ?_ | refine kA ?_ _)); exact BK172.out) hb)
      have n2_ := Aside0.mk (below_step (by repeat (first | (with_reducible first | exact HB.out | apply kL | apply kM | apply kE | refine kS ?_ GE172.out) | exact HB.out)) hb)
      have z_HO176 := fun (h0_ : b 0 = true) (h1_ : b 5 = false) => (show Kd.R (Kd.int .u8) 5 w40 w.heap.size (fun _ => True) v175 t174 from by first | exact (Kd.R_below (by (with_reducible repeat (first | apply Kd.R_alloc | apply Kd.R_drewN | apply Kd.R_drew)); exact (Q_HO176 h0_ h1_)) hb) | exact Kd.R_mono (Kd.R_below (by (with_reducible repeat (first | apply Kd.R_alloc | apply Kd.R_drewN | apply Kd.R_drew)); exact (Q_HO176 h0_ h1_)) hb) (fun _ h_ => by first | trivial | exact h_ | exact h_.1))
      have z_BK178 := fun (h0_ : b 0 = true) (h1_ : b 5 = false) => (show w40.heap[gb178]? = some (.cells #[v175, .int .i64 t177] 60 (0, 0)) from by first | exact (blk_below (g := gb178) (o := .cells #[v175, .int .i64 t177] 60 (0, 0)) (by (with_reducible repeat (first | refine kN ?_ _ | refine kD ?_ | refine kA ?_ _)); exact (Q_BK178 h0_ h1_)) hb))
      clear BK172
      clear HB
      have HO181 := n0_
      have BK172 := n1_
      have HB := n2_
      clear n0_ n1_ n2_
      clear hb ho41
      refine hK.out _ _ ⟨v175, gb178, v180, v183, m0_, m5_, m6_, (by rw [ha.out]; exact putSel_upk 3 hb_ rfl rfl rfl), (by (with_reducible repeat (first | refine kN ?_ _ | refine kD ?_ | refine kA ?_ _)); exact BK172.out), (by repeat (first | (with_reducible first | exact HB.out | apply kL | apply kM | apply kE | refine kS ?_ GE172.out) | exact HB.out)), z_HO176, z_BK178, Q_GW178, Q_GE178, Q_NB172_178, Q_NB178_172, fun _ => (by (with_reducible repeat (first | apply Kd.R_alloc | apply Kd.R_drewN | apply Kd.R_drew)); exact HO181.out), fun h0_ => absurd ((hoff 5 (by kernel_rfl)).symm.trans h0_) (by decide), fun h0_ => absurd ((hoff 5 (by kernel_rfl)).symm.trans h0_) (by decide), Q_X0_, fun h0_ => absurd ((hoff 5 (by kernel_rfl)).symm.trans h0_) (by decide), fun h0_ => absurd ((hoff 6 (by kernel_rfl)).symm.trans h0_) (by decide)⟩
     refine steps_cons ?_ ?_
     ·rintro b a w' ⟨v175, gb178, v180, v183, m0_, m5_, m6_, ha, Q_BK172, Q_HB, Q_HO176, Q_BK178, Q_GW178, Q_GE178, Q_NB172_178, Q_NB178_172, Q_HO181, Q_HO184, Q_BK178_e5, Q_X0_, Q_X5_, Q_X6_⟩ hb_ hon hoff
      refine ⟨_, rfl, fun K hK => ?_⟩
      have e7 : a.tmps[7]? = some (m0_) := by rw [ha]; exact putSel_on (e := (0, 7, m0_)) 0 rfl rfl (hon 0 (by kernel_rfl)) rfl
      rw [Q_X0_ (hon 0 (by kernel_rfl))] at e7
      have e11 : a.tmps[11]? = some (v180) := by rw [ha]; exact putSel_on (e := (4, 11, v180)) 3 rfl rfl (hon 4 (by kernel_rfl)) rfl
      replace ha := Aside0.mk ha
      have BK172 := Aside0.mk Q_BK172
      have HB := Aside0.mk Q_HB
      have HO176 := Aside0.mk (Q_HO176 (hon 0 (by kernel_rfl)) hb_)
      have BK178 := Aside0.mk (Q_BK178 (hon 0 (by kernel_rfl)) hb_)
      have GW178 := Aside0.mk (Q_GW178 (hon 0 (by kernel_rfl)))
      have GE178 := Aside0.mk (Q_GE178 (hon 0 (by kernel_rfl)))
      have NB172_178 := Aside0.mk (Q_NB172_178 (hon 0 (by kernel_rfl)))
      have NB178_172 := Aside0.mk (Q_NB178_172 (hon 0 (by kernel_rfl)))
      have HO181 := Aside0.mk (Q_HO181 (hon 4 (by kernel_rfl)))
      obtain ⟨Ao44, co44, eo44⟩ := Kd.R_slice HO181.out
      (first | subst eo44 | (injection eo44 with f1_ f2_ f3_; have f4_ := f1_.symm; have f5_ := f3_.symm; clear f1_ f2_ f3_; subst f4_; subst f5_))
      refine goes_ Try.func30 (by kernel_rfl) rfl #[.pointer (some ⟨gb178, 0, none⟩), .slice Ao44 y179.length co44] (by rfl) rfl rfl (by first | (simp only [List.map_toArray, List.map_cons, List.map_nil, Act.eval, Array.getD_eq_getD_getElem?, Option.getD_some, e7, e11]; done) | (simp only [List.map_toArray, List.map_cons, List.map_nil, Act.eval, Array.getD_eq_getD_getElem?, Option.getD_some, e7, e11]; rfl)) ?_
      with_reducible refine (pack_Box_Put.calls k gb178 (fun k_ => some k_ = (v175 : Value).ownBlock) v175 t174 t177 _ _ y179 t182 t185 w _ ?side1 ?side2 ?side3 ?side4 ?side5 ?side6 A5.out).mono ?_
      (case side1 => repeat (first | (with_reducible first | exact HB.out | apply kL | apply kM | apply kE | refine kS ?_ GE172.out | refine kS ?_ GE178.out) | exact HB.out))
      (case side2 => exact (by (with_reducible repeat (first | refine kN ?_ _ | refine kD ?_ | refine kA ?_ _)); exact BK178.out))
      (case side3 => exact GE178.out)
      (case side4 => exact Kd.R_tight rfl HO176.out)
      (case side5 => exact Kd.C_kept_own ((Kd.R_types (Kd.R_apart' HO181.out (Kd.R_typed HO176.out) (by decide)) BK178.out (by decide))) (fun k_ hk_ hs_ => Or.elim hs_ (fun hs_ => (hk_.1.2) hs_) (fun e_ => (hk_.2) e_)))
      (case side6 => exact (Kd.R_reads' HO181.out).2.1)
      rintro e w45 ⟨v183, rfl, ho0, hi, hb, hkp⟩
      refine ⟨_, rfl, ?_⟩
      have n0_ := Aside0.mk (blk_kept (by (with_reducible repeat (first | refine kN ?_ _ | refine kD ?_ | refine kA ?_ _)); exact BK172.out) hkp (fun hs_ => Or.elim hs_ (fun hs_ => (fun e_ => (Kd.R_ne HO176.out BK172.out (by decide)) e_) hs_) (fun e_ => NB172_178.out e_)))
      have n1_ := Aside0.mk (hi)
      have n2_ := Aside0.mk (Kd.R_mono (ok' := fun k_ => True) (Kd.R_keptB ((Kd.R_types (Kd.R_apart' HO181.out (Kd.R_typed HO176.out) (by decide)) BK178.out (by decide))) hkp (fun k_ hk_ hs_ => Or.elim hs_ (fun hs_ => (hk_.1.2) hs_) (fun e_ => (hk_.2) e_))) (fun k_ hk_ => trivial))
      have n3_ := Aside0.mk (Kd.R_mono (ok' := fun k_ => True) ho0 (fun k_ hk_ => trivial))
      have n4_ := Aside0.mk (hb)
      clear BK172
      clear BK178
      clear HO181
      clear HB
      clear HO176
      have BK172 := n0_
      have BK178 := n1_
      have HO181 := n2_
      have HO184 := n3_
      have HB := n4_
      clear n0_ n1_ n2_ n3_ n4_
      (try clear hb)
      (try clear hkp)
      (try clear hi)
      (try clear ho0)
      refine hK.out _ _ ⟨v175, gb178, .slice Ao44 y179.length co44, v183, m0_, (.pointer (some ⟨gb178, 0, none⟩)), m6_, (by rw [ha.out]; exact putSel_upk 4 hb_ rfl rfl rfl), (by (with_reducible repeat (first | refine kN ?_ _ | refine kD ?_ | refine kA ?_ _)); exact BK172.out), (by repeat (first | (with_reducible first | exact HB.out | apply kL | apply kM | apply kE | refine kS ?_ GE172.out | refine kS ?_ GE178.out) | exact HB.out)), fun _ h1_ => absurd ((up_self b 5).symm.trans h1_) (by decide), fun _ h1_ => absurd ((up_self b 5).symm.trans h1_) (by decide), fun _ => GW178.out, fun _ => GE178.out, fun _ => NB172_178.out, fun _ => NB178_172.out, fun _ => (by (with_reducible repeat (first | apply Kd.R_alloc | apply Kd.R_drewN | apply Kd.R_drew)); exact HO181.out), fun _ => (by (with_reducible repeat (first | apply Kd.R_alloc | apply Kd.R_drewN | apply Kd.R_drew)); exact HO184.out), fun _ => (by (with_reducible repeat (first | refine kN ?_ _ | refine kD ?_ | refine kA ?_ _)); exact BK178.out), Q_X0_, fun _ => rfl, fun h0_ => absurd ((hoff 6 (by kernel_rfl)).symm.trans h0_) (by decide)⟩
     refine steps_cons ?_ ?_
     ·rintro b a w' ⟨v175, gb178, v180, v183, m0_, m5_, m6_, ha, Q_BK172, Q_HB, Q_HO176, Q_BK178, Q_GW178, Q_GE178, Q_NB172_178, Q_NB178_172, Q_HO181, Q_HO184, Q_BK178_e5, Q_X0_, Q_X5_, Q_X6_⟩ hb_ hon hoff
      refine ⟨_, rfl, fun K hK => ?_⟩
      have e12 : a.tmps[12]? = some (m5_) := by rw [ha]; exact putSel_on (e := (5, 12, m5_)) 4 rfl rfl (hon 5 (by kernel_rfl)) rfl
      rw [Q_X5_ (hon 5 (by kernel_rfl))] at e12
      replace ha := Aside0.mk ha
      have BK172 := Aside0.mk Q_BK172
      have HB := Aside0.mk Q_HB
      have GW178 := Aside0.mk (Q_GW178 (hon 0 (by kernel_rfl)))
      have GE178 := Aside0.mk (Q_GE178 (hon 0 (by kernel_rfl)))
      have NB172_178 := Aside0.mk (Q_NB172_178 (hon 0 (by kernel_rfl)))
      have NB178_172 := Aside0.mk (Q_NB178_172 (hon 0 (by kernel_rfl)))
      have HO181 := Aside0.mk (Q_HO181 (hon 4 (by kernel_rfl)))
      have HO184 := Aside0.mk (Q_HO184 (hon 5 (by kernel_rfl)))
      have BK178 := Aside0.mk (Q_BK178_e5 (hon 5 (by kernel_rfl)))
      refine value_ (w1 := w') (v := .pointer (some ⟨gb178, 0, none⟩)) (by rfl) rfl ?_ ?_
      ·go_simp
       (try simp only [i64_w])
       try rfl
      refine hK.out _ _ ⟨v175, gb178, v180, v183, m0_, m5_, (.pointer (some ⟨gb178, 0, none⟩)), (by rw [ha.out]; exact putSel_upk 5 hb_ rfl rfl rfl), Q_BK172, Q_HB, fun _ h1_ => absurd ((hon 5 (by kernel_rfl)).symm.trans h1_) (by decide), fun _ h1_ => absurd ((hon 5 (by kernel_rfl)).symm.trans h1_) (by decide), Q_GW178, Q_GE178, Q_NB172_178, Q_NB178_172, Q_HO181, Q_HO184, Q_BK178_e5, Q_X0_, Q_X5_, fun _ => rfl⟩
     exact steps_nil
    rintro b a w45 hall ⟨v175, gb178, v180, v183, m0_, m5_, m6_, ha, Q_BK172, Q_HB, Q_HO176, Q_BK178, Q_GW178, Q_GE178, Q_NB172_178, Q_NB178_172, Q_HO181, Q_HO184, Q_BK178_e5, Q_X0_, Q_X5_, Q_X6_⟩
    clear BK172 HB
    have hb0_ := hall 0 (by kernel_rfl)
    have hb2_ := hall 2 (by kernel_rfl)
    have hb3_ := hall 3 (by kernel_rfl)
    have hb4_ := hall 4 (by kernel_rfl)
    have hb5_ := hall 5 (by kernel_rfl)
    have hb6_ := hall 6 (by kernel_rfl)
    subst ha
    obtain rfl := Q_X0_ hb0_
    obtain rfl := Q_X5_ hb5_
    obtain rfl := Q_X6_ hb6_
    simp only [putSel, hb0_, hb2_, hb3_, hb4_, hb5_, hb6_, if_true, Act.put, List.setIfInBounds_toArray, List.set_cons_zero, List.set_cons_succ]
    have BK172 := Aside0.mk Q_BK172
    clear Q_BK172
    have HB := Aside0.mk Q_HB
    clear Q_HB
    clear Q_HO176
    clear Q_BK178
    have GW178 := Aside0.mk (Q_GW178 hb0_)
    clear Q_GW178
    have GE178 := Aside0.mk (Q_GE178 hb0_)
    clear Q_GE178
    have NB172_178 := Aside0.mk (Q_NB172_178 hb0_)
    clear Q_NB172_178
    have NB178_172 := Aside0.mk (Q_NB178_172 hb0_)
    clear Q_NB178_172
    have HO181 := Aside0.mk (Q_HO181 hb4_)
    clear Q_HO181
    have HO184 := Aside0.mk (Q_HO184 hb5_)
    clear Q_HO184
    have BK178 := Aside0.mk (Q_BK178_e5 hb5_)
    clear Q_BK178_e5
    clear hall hb0_ hb2_ hb3_ hb4_ hb5_ hb6_
    have hnb46 := NB172_178.out
    have hnc46 := NB178_172.out
    obtain ⟨hcz47_0, hcz47_1, hcz47_2, hcz47_3, hcz47_4, hcz47_5, hcz47_6, hcz47_7, hcz47_8, hcz47_9, hcz47_10, hcz47_11, hcz47_12, hcz47_13, hcz47_14, hcz47_15, hfz47_0, hfz47_1, hfz47_2, hfz47_3, hfz47_4, hfz47_5, hfz47_6, hfz47_7, hfz47_8, hfz47_9, hfz47_10, hfz47_11, hfz47_12, hfz47_13, hfz47_14, hfz47_15⟩ := bxc16 BK172.out
    try go_wp2_with (first | ((with_reducible refine gate_callee (f := 26) rfl ?_); refine goesL_ (some 20) rfl rfl Try.func26 (by kernel_rfl) rfl #[.int .u8 a0_0] rfl (by (try simp only [List.map_toArray, List.map_cons, List.map_nil]); first | done | rfl | (simp only [List.length_drop, List.length_take]; rfl)) ?_; (with_reducible refine (order_subs.calls a0_0 true _ A6.out).mono ?_); rintro e w' ⟨rfl, ⟨nd, rfl⟩⟩; refine ⟨_, rfl, ?_⟩) | ((with_reducible refine gate_dst (N := 24) rfl ?_); refine Kd.R_lit (Kd.int .i64) _ 2 ?hg (N := 24) ?hd (xs := ([a0_1] : List Int)) (inner := [.int .i64 a0_1]) (ok := fun _ => True) (okp := fun _ => True) ?hr ?hp (fun _ hk => hk) trivial (Below.refl _ _) (Nat.le_refl _) (by simp) ?_; (case hd => rfl); (case hg => rfl); (case hr => first | (go_simp; done) | (go_simp; rfl)); (case hp => exact (Reps.one (show Kd.M (Kd.int .i64) _ _ _ a0_1 [.int .i64 a0_1] from rfl) (Reps.none _ _))); intro v188 w48 ho49 hb hg_ hnew_; clear hg_ hnew_; (first | rw [← Ny187.out] at ho49 | (simp only [Int.reduceToNat] at ho49; rw [← Ny187.out] at ho49)); have n0_ := Aside0.mk (Kd.R_elder' (by (with_reducible repeat (first | apply Kd.R_alloc | apply Kd.R_drewN | apply Kd.R_drew)); exact HO181.out) (Kd.R_base ho49) hb); have n1_ := Aside0.mk (Kd.R_below (by (with_reducible repeat (first | apply Kd.R_alloc | apply Kd.R_drewN | apply Kd.R_drew)); exact HO184.out) hb); have n2_ := Aside0.mk (Kd.R_lower (Kd.R_new' ho49 (Kd.R_lt (by (with_reducible repeat (first | apply Kd.R_alloc | apply Kd.R_drewN | apply Kd.R_drew)); exact HO181.out))) (below_size (by repeat (first | (with_reducible first | exact HB.out | apply kL | apply kM | apply kE | refine kS ?_ GE172.out | refine kS ?_ GE178.out) | exact HB.out)))); have n3_ := Aside0.mk (blk_below (g := gb172) (o := .cells #[.int .u8 a0_0, .int .i64 a0_1, .int .i64 a0_2, .int .i64 a0_3, .int .i64 a0_4, .int .u8 a0_5, .int .i64 a0_6, .int .i64 a0_7, .bool a0_8, .bool a0_9, .int .u8 a0_10, .int .i64 a0_11, .int .i64 a0_12, .int .i64 a0_13, .int .i64 a0_14, .int .u8 a0_15] 27 (0, 0)) (by (with_reducible repeat (first | refine kN ?_ _ | refine kD ?_ | refine kA ?_ _)); exact BK172.out) hb); have n4_ := Aside0.mk (blk_below (g := gb178) (o := .cells #[v183, .int .i64 t185] 60 (0, 0)) (by (with_reducible repeat (first | refine kN ?_ _ | refine kD ?_ | refine kA ?_ _)); exact BK178.out) hb); have n5_ := Aside0.mk (below_step (by repeat (first | (with_reducible first | exact HB.out | apply kL | apply kM | apply kE | refine kS ?_ GE172.out | refine kS ?_ GE178.out) | exact HB.out)) hb); clear HO181; clear HO184; clear BK172; clear BK178; clear HB; have HO181 := n0_; have HO184 := n1_; have HO189 := n2_; have BK172 := n3_; have BK178 := n4_; have HB := n5_; clear n0_ n1_ n2_ n3_ n4_ n5_; clear hb ho49; obtain ⟨Ao50, co50, eo50⟩ := Kd.R_slice HO189.out; subst eo50) | ((with_reducible refine gate_callee (f := 30) rfl ?_); refine goesL_ (some 25) rfl rfl Try.func30 (by kernel_rfl) rfl #[.pointer (some ⟨gb178, 0, none⟩), .slice Ao50 y187.length co50] rfl (by (try simp only [List.map_toArray, List.map_cons, List.map_nil]); first | done | rfl | (simp only [List.length_drop, List.length_take]; rfl)) ?_; (with_reducible refine (pack_Box_Put.calls k gb178 (fun k_ => some k_ = (v183 : Value).ownBlock) v183 t182 t185 _ _ y187 t190 t193 w _ ?side1 ?side2 ?side3 ?side4 ?side5 ?side6 A8.out).mono ?_); (case side1 => repeat (first | (with_reducible first | exact HB.out | apply kL | apply kM | apply kE | refine kS ?_ GE172.out | refine kS ?_ GE178.out) | exact HB.out)); (case side2 => exact (by (with_reducible repeat (first | refine kN ?_ _ | refine kD ?_ | refine kA ?_ _)); exact BK178.out)); (case side3 => exact GE178.out); (case side4 => exact Kd.R_tight rfl HO184.out); (case side5 => exact Kd.C_kept_own ((Kd.R_types (Kd.R_apart' HO189.out (Kd.R_typed HO184.out) (by decide)) BK178.out (by decide))) (fun k_ hk_ hs_ => Or.elim hs_ (fun hs_ => (hk_.1.2) hs_) (fun e_ => (hk_.2) e_))); (case side6 => exact (Kd.R_reads' HO189.out).2.1); rintro e w51 ⟨v191, rfl, ho0, hi, hb, hkp⟩; refine ⟨_, rfl, ?_⟩; have n0_ := Aside0.mk (blk_kept (by (with_reducible repeat (first | refine kN ?_ _ | refine kD ?_ | refine kA ?_ _)); exact BK172.out) hkp (fun hs_ => Or.elim hs_ (fun hs_ => (fun e_ => (Kd.R_ne HO184.out BK172.out (by decide)) e_) hs_) (fun e_ => NB172_178.out e_))); have n1_ := Aside0.mk (hi); have n2_ := Aside0.mk (Kd.R_mono (ok' := fun k_ => some k_ ≠ (.slice Ao50 y187.length co50 : Value).ownBlock) (Kd.R_keptB ((Kd.R_types (Kd.R_apart' HO181.out (Kd.R_typed HO184.out) (by decide)) BK178.out (by decide))) hkp (fun k_ hk_ hs_ => Or.elim hs_ (fun hs_ => (hk_.1.2) hs_) (fun e_ => (hk_.2) e_))) (fun k_ hk_ => hk_.1.1.1.2)); have n3_ := Aside0.mk (Kd.R_mono (ok' := fun k_ => some k_ ≠ (v180 : Value).ownBlock) (Kd.R_keptB ((Kd.R_types (Kd.R_apart' HO189.out (Kd.R_typed HO184.out) (by decide)) BK178.out (by decide))) hkp (fun k_ hk_ hs_ => Or.elim hs_ (fun hs_ => (hk_.1.2) hs_) (fun e_ => (hk_.2) e_))) (fun k_ hk_ => hk_.1.1.1.2)); have n4_ := Aside0.mk (Kd.R_mono (ok' := fun k_ => True) ho0 (fun k_ hk_ => trivial)); have n5_ := Aside0.mk (hb); clear BK172; clear BK178; clear HO181; clear HO189; clear HB; clear HO184; have BK172 := n0_; have BK178 := n1_; have HO181 := n2_; have HO189 := n3_; have HO192 := n4_; have HB := n5_; clear n0_ n1_ n2_ n3_ n4_ n5_; (try clear hb); (try clear hkp); (try clear hi); (try clear ho0); obtain ⟨hcz52_0, hcz52_1, hcz52_2, hcz52_3, hcz52_4, hcz52_5, hcz52_6, hcz52_7, hcz52_8, hcz52_9, hcz52_10, hcz52_11, hcz52_12, hcz52_13, hcz52_14, hcz52_15, hfz52_0, hfz52_1, hfz52_2, hfz52_3, hfz52_4, hfz52_5, hfz52_6, hfz52_7, hfz52_8, hfz52_9, hfz52_10, hfz52_11, hfz52_12, hfz52_13, hfz52_14, hfz52_15⟩ := bxc16 BK172.out) | ((with_reducible refine gate_callee (f := 27) rfl ?_); refine goesL_ (some 28) rfl rfl Try.func27 (by kernel_rfl) rfl #[.int .u8 a0_0] rfl (by (try simp only [List.map_toArray, List.map_cons, List.map_nil]); first | done | rfl | (simp only [List.length_drop, List.length_take]; rfl)) ?_; (with_reducible refine (order_plans.calls a0_0 false _ A9.out).mono ?_); rintro e w' ⟨rfl, ⟨nd, rfl⟩⟩; refine ⟨_, rfl, ?_⟩) | ((with_reducible refine gate_callee (f := 20) rfl ?_); refine goesL_ (some 52) rfl rfl Try.func20 (by kernel_rfl) rfl #[.pointer (some ⟨gb178, 0, none⟩)] rfl (by (try simp only [List.map_toArray, List.map_cons, List.map_nil]); first | done | rfl | (simp only [List.length_drop, List.length_take]; rfl)) ?_; (with_reducible refine (pack_Box_Done.calls gb178 (fun k_ => some k_ = (v191 : Value).ownBlock) v191 t190 t193 t209 t212 t215 w _ ?side1 ?side2 ?side3 ?side4 A35.out).mono ?_); (case side1 => repeat (first | (with_reducible first | exact HB.out | apply kL | apply kM | apply kE | refine kS ?_ GE172.out | refine kS ?_ GE178.out) | exact HB.out)); (case side2 => exact (by (with_reducible repeat (first | refine kN ?_ _ | refine kD ?_ | refine kA ?_ _)); exact BK178.out)); (case side3 => exact GE178.out); (case side4 => exact Kd.R_tight rfl HO192.out); rintro e w53 ⟨v210, v213, rfl, ho0, ho1, hi, hb, hkp⟩; refine ⟨_, rfl, ?_⟩; have n0_ := Aside0.mk (blk_kept (by (with_reducible repeat (first | refine kN ?_ _ | refine kD ?_ | refine kA ?_ _)); exact BK172.out) hkp (fun hs_ => Or.elim hs_ (fun hs_ => (fun e_ => (Kd.R_ne HO192.out BK172.out (by decide)) e_) hs_) (fun e_ => NB172_178.out e_))); have n1_ := Aside0.mk (hi); have n2_ := Aside0.mk (Kd.R_mono (ok' := fun k_ => some k_ ≠ (.slice Ao50 y187.length co50 : Value).ownBlock) (Kd.R_keptB ((Kd.R_types (Kd.R_apart' HO181.out (Kd.R_typed HO192.out) (by decide)) BK178.out (by decide))) hkp (fun k_ hk_ hs_ => Or.elim hs_ (fun hs_ => (hk_.1.2) hs_) (fun e_ => (hk_.2) e_))) (fun k_ hk_ => hk_.1.1.1)); have n3_ := Aside0.mk (Kd.R_mono (ok' := fun k_ => some k_ ≠ (v180 : Value).ownBlock) (Kd.R_keptB ((Kd.R_types (Kd.R_apart' HO189.out (Kd.R_typed HO192.out) (by decide)) BK178.out (by decide))) hkp (fun k_ hk_ hs_ => Or.elim hs_ (fun hs_ => (hk_.1.2) hs_) (fun e_ => (hk_.2) e_))) (fun k_ hk_ => hk_.1.1.1)); have n4_ := Aside0.mk (Kd.R_mono (ok' := fun k_ => some k_ ≠ (v213 : Value).ownBlock) ho0 (fun k_ hk_ => hk_.2)); have n5_ := Aside0.mk (Kd.R_mono (ok' := fun k_ => some k_ ≠ (v210 : Value).ownBlock) ho1 (fun k_ hk_ => hk_.2)); have n6_ := Aside0.mk (hb); clear BK172; clear BK178; clear HO181; clear HO189; clear HB; clear HO192; have BK172 := n0_; have BK178 := n1_; have HO181 := n2_; have HO189 := n3_; have HO211 := n4_; have HO214 := n5_; have HB := n6_; clear n0_ n1_ n2_ n3_ n4_ n5_ n6_; (try clear hb); (try clear hkp); (try clear hi); (try clear ho0); (try clear ho1)))
    go_ret
    exact ⟨_, by first | rfl | (simp [errW_none, errW_some] <;> rfl) | (simp [*, errW_none, errW_some] <;> rfl), by (with_reducible repeat (first | apply Kd.R_alloc | apply Kd.R_drewN | apply Kd.R_drew)); exact Kd.R_mono HO211.out (fun _ hk => trivial), by repeat (first | (with_reducible first | exact HB.out | apply kL | apply kM | apply kE | refine kS ?_ GE172.out | refine kS ?_ GE178.out) | exact HB.out)⟩
  ·replace c7 := Bool.eq_false_iff.mpr c7
   subst c7
   have H1 : (if a0_0 = 1 then ((plan_Put.f k t182 t185 a0_4 a0_5 a0_6 a0_7 a0_8 a0_9).bind fun bt216 => ((pack_Box_Done.f bt216.1 bt216.2).bind fun bt220 => (some bt220.1))) else (if a0_0 = 9 then ((pack_Box_Put.f k t182 t185 (([a0_3] : List Int))).bind fun bt230 => ((pack_Box_Done.f bt230.1 bt230.2).bind fun bt234 => (some bt234.1))) else ((order_Put.f k t182 t185 a0_10 a0_11 a0_12 a0_13 a0_14 a0_15).bind fun bt241 => ((pack_Box_Done.f bt241.1 bt241.2).bind fun bt245 => (some bt245.1))))) = some r := by rw [if_neg (show ¬ (false = true) by decide)] at H; try exact H
   clear H
   have H := H1
   clear H1
   by_cases c54 : a0_0 = 1
   ·rw [if_pos c54] at H
    have c54b0 : (a0_0 == 1) = true := beq_iff_eq.mpr c54
    have c54b1 : (a0_0 != 1) = false := bne_eq_false_iff_eq.mpr c54
    clear c54
    replace H := Option.bind_eq_some_iff.mp H
    obtain ⟨⟨t216, t219⟩, A550, H⟩ := H
    replace H : ((pack_Box_Done.f t216 t219).bind fun bt220 => (some bt220.1)) = some r := H
    have A55 := Aside0.mk A550
    clear A550
    replace H := Option.bind_eq_some_iff.mp H
    obtain ⟨⟨t220, t223, t226⟩, A560, H⟩ := H
    replace H : (some t220) = some r := H
    have A56 := Aside0.mk A560
    clear A560
    obtain rfl := Option.some.inj H
    go_enter Try.func15, Try.ntmps15
    try go_wp2_with (first | ((with_reducible refine gate_dst (N := 1) rfl ?_); refine box_event ?hg (N := 1) ?hd (cs := #[.int .u8 a0_0, .int .i64 a0_1, .int .i64 a0_2, .int .i64 a0_3, .int .i64 a0_4, .int .u8 a0_5, .int .i64 a0_6, .int .i64 a0_7, .bool a0_8, .bool a0_9, .int .u8 a0_10, .int .i64 a0_11, .int .i64 a0_12, .int .i64 a0_13, .int .i64 a0_14, .int .u8 a0_15]) (t := 27) ?hr ?_; (case hd => rfl); (case hg => rfl); (case hr => first | (go_simp; done) | (go_simp; rfl)); intro gb172 hg w57 hbox hb; have n0_ := Aside0.mk (below_step (by repeat (first | (with_reducible first | exact HB.out | apply kL | apply kM | apply kE) | exact HB.out)) hb); have n1_ := Aside0.mk (hbox); have n2_ := Aside0.mk ((by rw [hg]; exact (below_size (by repeat (first | (with_reducible first | exact HB.out | apply kL | apply kM | apply kE) | exact HB.out))) : w.heap.size ≤ gb172)); have n3_ := Aside0.mk ((by rw [hg]; exact (below_size (by repeat (first | (with_reducible first | exact HB.out | apply kL | apply kM | apply kE) | exact HB.out))) : w.heap.size ≤ gb172)); clear HB; have HB := n0_; have BK172 := n1_; have GW172 := n2_; have GE172 := n3_; clear n0_ n1_ n2_ n3_; clear hb hbox hg; obtain ⟨hcz58_0, hcz58_1, hcz58_2, hcz58_3, hcz58_4, hcz58_5, hcz58_6, hcz58_7, hcz58_8, hcz58_9, hcz58_10, hcz58_11, hcz58_12, hcz58_13, hcz58_14, hcz58_15, hfz58_0, hfz58_1, hfz58_2, hfz58_3, hfz58_4, hfz58_5, hfz58_6, hfz58_7, hfz58_8, hfz58_9, hfz58_10, hfz58_11, hfz58_12, hfz58_13, hfz58_14, hfz58_15⟩ := bxc16 BK172.out) | ((with_reducible refine gate_dst (N := 4) rfl ?_); refine wpList_load_row rfl 27 (.tmp 1) rfl gb172 rfl 27 #[.int .u8 a0_0, .int .i64 a0_1, .int .i64 a0_2, .int .i64 a0_3, .int .i64 a0_4, .int .u8 a0_5, .int .i64 a0_6, .int .i64 a0_7, .bool a0_8, .bool a0_9, .int .u8 a0_10, .int .i64 a0_11, .int .i64 a0_12, .int .i64 a0_13, .int .i64 a0_14, .int .u8 a0_15] (0, 0) _ (by (with_reducible repeat (first | refine kN ?_ _ | refine kD ?_ | refine kA ?_ _)); exact BK172.out) Try.underlying27 rfl (by kernel_rfl) ?_) | ((with_reducible refine gate_callee (f := 11) rfl ?_); refine goesL_ (some 5) rfl rfl Try.func11 (by kernel_rfl) rfl #[.agg #[.int .u8 a0_0, .int .i64 a0_1, .int .i64 a0_2, .int .i64 a0_3, .int .i64 a0_4, .int .u8 a0_5, .int .i64 a0_6, .int .i64 a0_7, .bool a0_8, .bool a0_9, .int .u8 a0_10, .int .i64 a0_11, .int .i64 a0_12, .int .i64 a0_13, .int .i64 a0_14, .int .u8 a0_15]] rfl (by (try simp only [List.map_toArray, List.map_cons, List.map_nil]); first | done | rfl | (simp only [List.length_drop, List.length_take]; rfl)) ?_; (with_reducible refine (order_Right.calls k a0_0 a0_1 a0_2 a0_3 a0_4 a0_5 a0_6 a0_7 a0_8 a0_9 a0_10 a0_11 a0_12 a0_13 a0_14 a0_15 t173 _ A2.out).mono ?_); rintro e w59 ⟨rfl, hb⟩; refine ⟨_, rfl, ?_⟩; have n0_ := Aside0.mk (blk_below (g := gb172) (o := .cells #[.int .u8 a0_0, .int .i64 a0_1, .int .i64 a0_2, .int .i64 a0_3, .int .i64 a0_4, .int .u8 a0_5, .int .i64 a0_6, .int .i64 a0_7, .bool a0_8, .bool a0_9, .int .u8 a0_10, .int .i64 a0_11, .int .i64 a0_12, .int .i64 a0_13, .int .i64 a0_14, .int .u8 a0_15] 27 (0, 0)) (by (with_reducible repeat (first | refine kN ?_ _ | refine kD ?_ | refine kA ?_ _)); exact BK172.out) hb); have n1_ := Aside0.mk (below_step (by repeat (first | (with_reducible first | exact HB.out | apply kL | apply kM | apply kE | refine kS ?_ GE172.out) | exact HB.out)) hb); clear BK172; clear HB; have BK172 := n0_; have HB := n1_; clear n0_ n1_; (try clear hb); (try clear hb2); (try clear hk); (try clear hi)))
    have n0_ := Aside0.mk (kD BK172.out)
    have n1_ := Aside0.mk (kE HB.out)
    clear BK172
    clear HB
    have BK172 := n0_
    have HB := n1_
    clear n0_ n1_
    refine start_ (n := 7) (S := fun w' => True) (ds := []) #[false, false, false, false, false, false, false] (by kernel_rfl) rfl rfl trivial (fun hHeld => ?_); refine with_tabW order_Encode.tab3 order_Encode.bits3 (fun HT_ HW_ => ?_)
    generalize w59.drew = w60 at BK172 HB hHeld ⊢
    refine pure_ (i := 1) (N := some 8) (v := ?_) (a' := ?_) #[false, true, false, false, false, false, false] rfl rfl (any_of HT_.out (by kernel_rfl)) (fun _ _ _ h => h) (Or.inl ⟨by rfl, ?_⟩) ?_ ?_
    rotate_left
    ·intro w'
     go_simp
     with_reducible rfl
    rotate_left
    ·simp only [Act.put, List.setIfInBounds_toArray, List.set_cons_zero, List.set_cons_succ, i64_w, i32_w]
     rfl
    refine inv_at [0, 2, 3, 4, 5, 6] (fun a0_ b a w' => ∃ (v175 : Value) (gb178 : Nat) (v180 : Value) (v183 : Value) (m0_ : Value) (m5_ : Value) (m6_ : Value), a = putSel a0_ b [(0, 7, m0_), (2, 9, .int .u8 a0_0), (3, 10, .int .i64 (wrap64 (a0_0))), (4, 11, v180), (5, 12, m5_), (6, 3, m6_)] ∧ (w'.heap[gb172]? = some (.cells #[.int .u8 a0_0, .int .i64 a0_1, .int .i64 a0_2, .int .i64 a0_3, .int .i64 a0_4, .int .u8 a0_5, .int .i64 a0_6, .int .i64 a0_7, .bool a0_8, .bool a0_9, .int .u8 a0_10, .int .i64 a0_11, .int .i64 a0_12, .int .i64 a0_13, .int .i64 a0_14, .int .u8 a0_15] 27 (0, 0))) ∧ (Below w.heap.size w w') ∧ (b 0 = true → b 5 = false → Kd.R (Kd.int .u8) 5 w' w.heap.size (fun _ => True) v175 t174) ∧ (b 0 = true → b 5 = false → w'.heap[gb178]? = some (.cells #[v175, .int .i64 t177] 60 (0, 0))) ∧ (b 0 = true → w.heap.size ≤ gb178) ∧ (b 0 = true → w.heap.size ≤ gb178) ∧ (b 0 = true → gb172 ≠ gb178) ∧ (b 0 = true → gb178 ≠ gb172) ∧ (b 4 = true → Kd.R (Kd.int .i64) 2 w' w.heap.size (fun _ => True) v180 y179) ∧ (b 5 = true → Kd.R (Kd.int .u8) 5 w' w.heap.size (fun _ => True) v183 t182) ∧ (b 5 = true → w'.heap[gb178]? = some (.cells #[v183, .int .i64 t185] 60 (0, 0))) ∧ (b 0 = true → (m0_ : Value) = .pointer (some ⟨gb178, 0, none⟩)) ∧ (b 5 = true → (m5_ : Value) = .pointer (some ⟨gb178, 0, none⟩)) ∧ (b 6 = true → (m6_ : Value) = .pointer (some ⟨gb178, 0, none⟩))) HT_.out HW_.out (by kernel_rfl) (by kernel_rfl) ?_ ?_ ?_
    ·exact ⟨.bool false, 0, .bool false, .bool false, .bool false, .bool false, .bool false, by simp only [putSel, Bool.false_eq_true, if_false], BK172.out, HB.out, fun h_ => absurd h_ (by decide), fun h_ => absurd h_ (by decide), fun h_ => absurd h_ (by decide), fun h_ => absurd h_ (by decide), fun h_ => absurd h_ (by decide), fun h_ => absurd h_ (by decide), fun h_ => absurd h_ (by decide), fun h_ => absurd h_ (by decide), fun h_ => absurd h_ (by decide), fun h_ => absurd h_ (by decide), fun h_ => absurd h_ (by decide), fun h_ => absurd h_ (by decide)⟩
    ·skip
     clear BK172 HB
     refine steps_cons ?_ ?_
     ·rintro b a w' ⟨v175, gb178, v180, v183, m0_, m5_, m6_, ha, Q_BK172, Q_HB, Q_HO176, Q_BK178, Q_GW178, Q_GE178, Q_NB172_178, Q_NB178_172, Q_HO181, Q_HO184, Q_BK178_e5, Q_X0_, Q_X5_, Q_X6_⟩ hb_ hon hoff
      refine ⟨_, rfl, fun K hK => ?_⟩
      replace ha := Aside0.mk ha
      have BK172 := Aside0.mk Q_BK172
      have HB := Aside0.mk Q_HB
      refine goes_ Try.func17 (by kernel_rfl) rfl #[] (by rfl) rfl rfl (by first | (simp only [List.map_toArray, List.map_cons, List.map_nil, Act.eval, Array.getD_eq_getD_getElem?, Option.getD_some]; done) | (simp only [List.map_toArray, List.map_cons, List.map_nil, Act.eval, Array.getD_eq_getD_getElem?, Option.getD_some]; rfl)) ?_
      with_reducible refine (pack_New.calls  t174 t177 _ A4.out).mono ?_
      rintro e w61 ⟨v175, gb178, rfl, ho0, hnb178, hnl178, hb⟩
      refine ⟨_, rfl, ?_⟩
      have n0_ := Aside0.mk (Kd.R_lower ho0 (below_size (by repeat (first | (with_reducible first | exact HB.out | apply kL | apply kM | apply kE | refine kS ?_ GE172.out) | exact HB.out))))
      have n1_ := Aside0.mk (blk_below (g := gb172) (o := .cells #[.int .u8 a0_0, .int .i64 a0_1, .int .i64 a0_2, .int .i64 a0_3, .int .i64 a0_4, .int .u8 a0_5, .int .i64 a0_6, .int .i64 a0_7, .bool a0_8, .bool a0_9, .int .u8 a0_10, .int .i64 a0_11, .int .i64 a0_12, .int .i64 a0_13, .int .i64 a0_14, .int .u8 a0_15] 27 (0, 0)) (by (with_reducible repeat (first | refine kN ?_ _ | refine kD ?_ | refine kA ?_ _)); exact BK172.out) hb)
      have n2_ := Aside0.mk (hnb178)
      have n3_ := Aside0.mk ((Nat.le_trans (below_size (by repeat (first | (with_reducible first | exact HB.out | apply kL | apply kM | apply kE | refine kS ?_ GE172.out) | exact HB.out))) hnl178 : w.heap.size ≤ gb178))
      have n4_ := Aside0.mk ((Nat.le_trans (below_size (by repeat (first | (with_reducible first | exact HB.out | apply kL | apply kM | apply kE | refine kS ?_ GE172.out) | exact HB.out))) hnl178 : w.heap.size ≤ gb178))
      have n5_ := Aside0.mk ((Nat.ne_of_lt (Nat.lt_of_lt_of_le (blk_lt (g := gb172) (o := .cells #[.int .u8 a0_0, .int .i64 a0_1, .int .i64 a0_2, .int .i64 a0_3, .int .i64 a0_4, .int .u8 a0_5, .int .i64 a0_6, .int .i64 a0_7, .bool a0_8, .bool a0_9, .int .u8 a0_10, .int .i64 a0_11, .int .i64 a0_12, .int .i64 a0_13, .int .i64 a0_14, .int .u8 a0_15] 27 (0, 0)) (by (with_reducible repeat (first | refine kN ?_ _ | refine kD ?_ | refine kA ?_ _)); exact BK172.out)) hnl178) : gb172 ≠ gb178))
      have n6_ := Aside0.mk ((Nat.ne_of_gt (Nat.lt_of_lt_of_le (blk_lt (g := gb172) (o := .cells #[.int .u8 a0_0, .int .i64 a0_1, .int .i64 a0_2, .int .i64 a0_3, .int .i64 a0_4, .int .u8 a0_5, .int .i64 a0_6, .int .i64 a0_7, .bool a0_8, .bool a0_9, .int .u8 a0_10, .int .i64 a0_11, .int .i64 a0_12, .int .i64 a0_13, .int .i64 a0_14, .int .u8 a0_15] 27 (0, 0)) (by (with_reducible repeat (first | refine kN ?_ _ | refine kD ?_ | refine kA ?_ _)); exact BK172.out)) hnl178) : gb178 ≠ gb172))
      have n7_ := Aside0.mk (below_step (by repeat (first | (with_reducible first | exact HB.out | apply kL | apply kM | apply kE | refine kS ?_ GE172.out) | exact HB.out)) hb)
      have z_HO181 := fun (h0_ : b 4 = true) => (show Kd.R (Kd.int .i64) 2 w61 w.heap.size (fun _ => True) v180 y179 from by first | exact (Kd.R_below (by (with_reducible repeat (first | apply Kd.R_alloc | apply Kd.R_drewN | apply Kd.R_drew)); exact (Q_HO181 h0_)) hb) | exact Kd.R_mono (Kd.R_below (by (with_reducible repeat (first | apply Kd.R_alloc | apply Kd.R_drewN | apply Kd.R_drew)); exact (Q_HO181 h0_)) hb) (fun _ h_ => by first | trivial | exact h_ | exact h_.1))
      clear BK172
      clear HB
      have HO176 := n0_
      have BK172 := n1_
      have BK178 := n2_
      have GW178 := n3_
      have GE178 := n4_
      have NB172_178 := n5_
      have NB178_172 := n6_
      have HB := n7_
      clear n0_ n1_ n2_ n3_ n4_ n5_ n6_ n7_
      (try clear hb)
      (try clear hb2)
      (try clear hk)
      (try clear hi)
      (try clear ho0)
      refine hK.out _ _ ⟨v175, gb178, v180, v183, (.pointer (some ⟨gb178, 0, none⟩)), m5_, m6_, (by rw [ha.out]; exact putSel_upk 0 hb_ rfl rfl rfl), (by (with_reducible repeat (first | refine kN ?_ _ | refine kD ?_ | refine kA ?_ _)); exact BK172.out), (by repeat (first | (with_reducible first | exact HB.out | apply kL | apply kM | apply kE | refine kS ?_ GE172.out | refine kS ?_ GE178.out) | exact HB.out)), fun _ _ => (by (with_reducible repeat (first | apply Kd.R_alloc | apply Kd.R_drewN | apply Kd.R_drew)); exact HO176.out), fun _ _ => (by (with_reducible repeat (first | refine kN ?_ _ | refine kD ?_ | refine kA ?_ _)); exact BK178.out), fun _ => GW178.out, fun _ => GE178.out, fun _ => NB172_178.out, fun _ => NB178_172.out, z_HO181, fun h0_ => absurd ((hoff 5 (by kernel_rfl)).symm.trans h0_) (by decide), fun h0_ => absurd ((hoff 5 (by kernel_rfl)).symm.trans h0_) (by decide), fun _ => rfl, fun h0_ => absurd ((hoff 5 (by kernel_rfl)).symm.trans h0_) (by decide), fun h0_ => absurd ((hoff 6 (by kernel_rfl)).symm.trans h0_) (by decide)⟩
     refine steps_cons ?_ ?_
     ·rintro b a w' ⟨v175, gb178, v180, v183, m0_, m5_, m6_, ha, Q_BK172, Q_HB, Q_HO176, Q_BK178, Q_GW178, Q_GE178, Q_NB172_178, Q_NB178_172, Q_HO181, Q_HO184, Q_BK178_e5, Q_X0_, Q_X5_, Q_X6_⟩ hb_ hon hoff
      refine ⟨_, rfl, fun K hK => ?_⟩
      have e8 : a.tmps[8]? = some (.pointer (some ⟨gb172, 0, none⟩)) := by rw [ha]; exact (putSel_off rfl).trans rfl
      replace ha := Aside0.mk ha
      have BK172 := Aside0.mk Q_BK172
      have HB := Aside0.mk Q_HB
      have hc0_ : w'.cell? ⟨gb172, 0, none⟩ = some (.int .u8 a0_0) := (kC BK172.out 0).trans rfl
      have hc1_ : w'.cell? ⟨gb172, 1, none⟩ = some (.int .i64 a0_1) := (kC BK172.out 1).trans rfl
      have hc2_ : w'.cell? ⟨gb172, 2, none⟩ = some (.int .i64 a0_2) := (kC BK172.out 2).trans rfl
      have hc3_ : w'.cell? ⟨gb172, 3, none⟩ = some (.int .i64 a0_3) := (kC BK172.out 3).trans rfl
      have hc4_ : w'.cell? ⟨gb172, 4, none⟩ = some (.int .i64 a0_4) := (kC BK172.out 4).trans rfl
      have hc5_ : w'.cell? ⟨gb172, 5, none⟩ = some (.int .u8 a0_5) := (kC BK172.out 5).trans rfl
      have hc6_ : w'.cell? ⟨gb172, 6, none⟩ = some (.int .i64 a0_6) := (kC BK172.out 6).trans rfl
      have hc7_ : w'.cell? ⟨gb172, 7, none⟩ = some (.int .i64 a0_7) := (kC BK172.out 7).trans rfl
      have hc8_ : w'.cell? ⟨gb172, 8, none⟩ = some (.bool a0_8) := (kC BK172.out 8).trans rfl
      have hc9_ : w'.cell? ⟨gb172, 9, none⟩ = some (.bool a0_9) := (kC BK172.out 9).trans rfl
      have hc10_ : w'.cell? ⟨gb172, 10, none⟩ = some (.int .u8 a0_10) := (kC BK172.out 10).trans rfl
      have hc11_ : w'.cell? ⟨gb172, 11, none⟩ = some (.int .i64 a0_11) := (kC BK172.out 11).trans rfl
      have hc12_ : w'.cell? ⟨gb172, 12, none⟩ = some (.int .i64 a0_12) := (kC BK172.out 12).trans rfl
      have hc13_ : w'.cell? ⟨gb172, 13, none⟩ = some (.int .i64 a0_13) := (kC BK172.out 13).trans rfl
      have hc14_ : w'.cell? ⟨gb172, 14, none⟩ = some (.int .i64 a0_14) := (kC BK172.out 14).trans rfl
      have hc15_ : w'.cell? ⟨gb172, 15, none⟩ = some (.int .u8 a0_15) := (kC BK172.out 15).trans rfl
      refine value_ (w1 := w') (v := .int .u8 a0_0) (by rfl) rfl ?_ ?_
      ·go_simp
       (try simp only [i64_w])
       try rfl
      refine hK.out _ _ ⟨v175, gb178, v180, v183, m0_, m5_, m6_, (by rw [ha.out]; exact putSel_upk 1 hb_ rfl rfl rfl), Q_BK172, Q_HB, Q_HO176, Q_BK178, Q_GW178, Q_GE178, Q_NB172_178, Q_NB178_172, fun h0_ => absurd ((hoff 4 (by kernel_rfl)).symm.trans h0_) (by decide), fun h0_ => absurd ((hoff 5 (by kernel_rfl)).symm.trans h0_) (by decide), fun h0_ => absurd ((hoff 5 (by kernel_rfl)).symm.trans h0_) (by decide), Q_X0_, fun h0_ => absurd ((hoff 5 (by kernel_rfl)).symm.trans h0_) (by decide), fun h0_ => absurd ((hoff 6 (by kernel_rfl)).symm.trans h0_) (by decide)⟩
     refine steps_cons ?_ ?_
     ·rintro b a w' ⟨v175, gb178, v180, v183, m0_, m5_, m6_, ha, Q_BK172, Q_HB, Q_HO176, Q_BK178, Q_GW178, Q_GE178, Q_NB172_178, Q_NB178_172, Q_HO181, Q_HO184, Q_BK178_e5, Q_X0_, Q_X5_, Q_X6_⟩ hb_ hon hoff
      refine ⟨_, rfl, fun K hK => ?_⟩
      have e9 : a.tmps[9]? = some (.int .u8 a0_0) := by rw [ha]; exact putSel_on (e := (2, 9, .int .u8 a0_0)) 1 rfl rfl (hon 2 (by kernel_rfl)) rfl
      replace ha := Aside0.mk ha
      have BK172 := Aside0.mk Q_BK172
      have HB := Aside0.mk Q_HB
      refine value_ (w1 := w') (v := .int .i64 (wrap64 (a0_0))) (by rfl) rfl ?_ ?_
      ·go_simp
       (try simp only [i64_w])
       try rfl
      refine hK.out _ _ ⟨v175, gb178, v180, v183, m0_, m5_, m6_, (by rw [ha.out]; exact putSel_upk 2 hb_ rfl rfl rfl), Q_BK172, Q_HB, Q_HO176, Q_BK178, Q_GW178, Q_GE178, Q_NB172_178, Q_NB178_172, fun h0_ => absurd ((hoff 4 (by kernel_rfl)).symm.trans h0_) (by decide), fun h0_ => absurd ((hoff 5 (by kernel_rfl)).symm.trans h0_) (by decide), fun h0_ => absurd ((hoff 5 (by kernel_rfl)).symm.trans h0_) (by decide), Q_X0_, fun h0_ => absurd ((hoff 5 (by kernel_rfl)).symm.trans h0_) (by decide), fun h0_ => absurd ((hoff 6 (by kernel_rfl)).symm.trans h0_) (by decide)⟩
     refine steps_cons ?_ ?_
     ·rintro b a w' ⟨v175, gb178, v180, v183, m0_, m5_, m6_, ha, Q_BK172, Q_HB, Q_HO176, Q_BK178, Q_GW178, Q_GE178, Q_NB172_178, Q_NB178_172, Q_HO181, Q_HO184, Q_BK178_e5, Q_X0_, Q_X5_, Q_X6_⟩ hb_ hon hoff
      refine ⟨_, rfl, fun K hK => ?_⟩
      have e10 : a.tmps[10]? = some (.int .i64 (wrap64 (a0_0))) := by rw [ha]; exact putSel_on (e := (3, 10, .int .i64 (wrap64 (a0_0)))) 2 rfl rfl (hon 3 (by kernel_rfl)) rfl
      replace ha := Aside0.mk ha
      have BK172 := Aside0.mk Q_BK172
      have HB := Aside0.mk Q_HB
      refine Kd.R_lit_step (Kd.int .i64) _ 2 ?hg (N := 11) ?hd (xs := ([wrap64 (a0_0)] : List Int)) (inner := [.int .i64 (wrap64 (a0_0))]) (ok := fun _ => True) (okp := fun _ => True) ?hr ?hp (fun _ hk => hk) trivial (Below.refl _ _) (Nat.le_refl _) (by simp) ?_; (case hd => rfl); (case hg => rfl); (case hr => first | (go_simp; done) | (go_simp; rfl)); (case hp => exact (Reps.one (show Kd.M (Kd.int .i64) _ _ _ (wrap64 (a0_0)) [.int .i64 (wrap64 (a0_0))] from rfl) (Reps.none _ _)))
      intro v180 w61 ho62 hb hg_ hnew_
      clear hg_ hnew_
      (first | rw [← Ny179.out] at ho62 | (simp only [Int.reduceToNat] at ho62; rw [← Ny179.out] at ho62))
      have n0_ := Aside0.mk (Kd.R_lower ho62 (below_size (by repeat (first | (with_reducible first | exact HB.out | apply kL | apply kM | apply kE | refine kS ?_ GE172.out) | exact HB.out))))
      have n1_ := Aside0.mk (blk_below (g := gb172) (o := .cells #[.int .u8 a0_0, .int .i64 a0_1, .int .i64 a0_2, .int .i64 a0_3, .int .i64 a0_4, .int .u8 a0_5, .int .i64 a0_6, .int .i64 a0_7, .bool a0_8, .bool a0_9, .int .u8 a0_10, .int .i64 a0_11, .int .i64 a0_12, .int .i64 a0_13, .int .i64 a0_14, .int .u8 a0_15] 27 (0, 0)) (by (with_reducible repeat (first | refine kN ?_ _ | refine kD ?_ | refine kA ?_ _)); exact BK172.out) hb)
      have n2_ := Aside0.mk (below_step (by repeat (first | (with_reducible first | exact HB.out | apply kL | apply kM | apply kE | refine kS ?_ GE172.out) | exact HB.out)) hb)
      have z_HO176 := fun (h0_ : b 0 = true) (h1_ : b 5 = false) => (show Kd.R (Kd.int .u8) 5 w61 w.heap.size (fun _ => True) v175 t174 from by first | exact (Kd.R_below (by (with_reducible repeat (first | apply Kd.R_alloc | apply Kd.R_drewN | apply Kd.R_drew)); exact (Q_HO176 h0_ h1_)) hb) | exact Kd.R_mono (Kd.R_below (by (with_reducible repeat (first | apply Kd.R_alloc | apply Kd.R_drewN | apply Kd.R_drew)); exact (Q_HO176 h0_ h1_)) hb) (fun _ h_ => by first | trivial | exact h_ | exact h_.1))
      have z_BK178 := fun (h0_ : b 0 = true) (h1_ : b 5 = false) => (show w61.heap[gb178]? = some (.cells #[v175, .int .i64 t177] 60 (0, 0)) from by first | exact (blk_below (g := gb178) (o := .cells #[v175, .int .i64 t177] 60 (0, 0)) (by (with_reducible repeat (first | refine kN ?_ _ | refine kD ?_ | refine kA ?_ _)); exact (Q_BK178 h0_ h1_)) hb))
      clear BK172
      clear HB
      have HO181 := n0_
      have BK172 := n1_
      have HB := n2_
      clear n0_ n1_ n2_
      clear hb ho62
      refine hK.out _ _ ⟨v175, gb178, v180, v183, m0_, m5_, m6_, (by rw [ha.out]; exact putSel_upk 3 hb_ rfl rfl rfl), (by (with_reducible repeat (first | refine kN ?_ _ | refine kD ?_ | refine kA ?_ _)); exact BK172.out), (by repeat (first | (with_reducible first | exact HB.out | apply kL | apply kM | apply kE | refine kS ?_ GE172.out) | exact HB.out)), z_HO176, z_BK178, Q_GW178, Q_GE178, Q_NB172_178, Q_NB178_172, fun _ => (by (with_reducible repeat (first | apply Kd.R_alloc | apply Kd.R_drewN | apply Kd.R_drew)); exact HO181.out), fun h0_ => absurd ((hoff 5 (by kernel_rfl)).symm.trans h0_) (by decide), fun h0_ => absurd ((hoff 5 (by kernel_rfl)).symm.trans h0_) (by decide), Q_X0_, fun h0_ => absurd ((hoff 5 (by kernel_rfl)).symm.trans h0_) (by decide), fun h0_ => absurd ((hoff 6 (by kernel_rfl)).symm.trans h0_) (by decide)⟩
     refine steps_cons ?_ ?_
     ·rintro b a w' ⟨v175, gb178, v180, v183, m0_, m5_, m6_, ha, Q_BK172, Q_HB, Q_HO176, Q_BK178, Q_GW178, Q_GE178, Q_NB172_178, Q_NB178_172, Q_HO181, Q_HO184, Q_BK178_e5, Q_X0_, Q_X5_, Q_X6_⟩ hb_ hon hoff
      refine ⟨_, rfl, fun K hK => ?_⟩
      have e7 : a.tmps[7]? = some (m0_) := by rw [ha]; exact putSel_on (e := (0, 7, m0_)) 0 rfl rfl (hon 0 (by kernel_rfl)) rfl
      rw [Q_X0_ (hon 0 (by kernel_rfl))] at e7
      have e11 : a.tmps[11]? = some (v180) := by rw [ha]; exact putSel_on (e := (4, 11, v180)) 3 rfl rfl (hon 4 (by kernel_rfl)) rfl
      replace ha := Aside0.mk ha
      have BK172 := Aside0.mk Q_BK172
      have HB := Aside0.mk Q_HB
      have HO176 := Aside0.mk (Q_HO176 (hon 0 (by kernel_rfl)) hb_)
      have BK178 := Aside0.mk (Q_BK178 (hon 0 (by kernel_rfl)) hb_)
      have GW178 := Aside0.mk (Q_GW178 (hon 0 (by kernel_rfl)))
      have GE178 := Aside0.mk (Q_GE178 (hon 0 (by kernel_rfl)))
      have NB172_178 := Aside0.mk (Q_NB172_178 (hon 0 (by kernel_rfl)))
      have NB178_172 := Aside0.mk (Q_NB178_172 (hon 0 (by kernel_rfl)))
      have HO181 := Aside0.mk (Q_HO181 (hon 4 (by kernel_rfl)))
      obtain ⟨Ao65, co65, eo65⟩ := Kd.R_slice HO181.out
      (first | subst eo65 | (injection eo65 with f1_ f2_ f3_; have f4_ := f1_.symm; have f5_ := f3_.symm; clear f1_ f2_ f3_; subst f4_; subst f5_))
      refine goes_ Try.func30 (by kernel_rfl) rfl #[.pointer (some ⟨gb178, 0, none⟩), .slice Ao65 y179.length co65] (by rfl) rfl rfl (by first | (simp only [List.map_toArray, List.map_cons, List.map_nil, Act.eval, Array.getD_eq_getD_getElem?, Option.getD_some, e7, e11]; done) | (simp only [List.map_toArray, List.map_cons, List.map_nil, Act.eval, Array.getD_eq_getD_getElem?, Option.getD_some, e7, e11]; rfl)) ?_
      with_reducible refine (pack_Box_Put.calls k gb178 (fun k_ => some k_ = (v175 : Value).ownBlock) v175 t174 t177 _ _ y179 t182 t185 w _ ?side1 ?side2 ?side3 ?side4 ?side5 ?side6 A5.out).mono ?_
      (case side1 => repeat (first | (with_reducible first | exact HB.out | apply kL | apply kM | apply kE | refine kS ?_ GE172.out | refine kS ?_ GE178.out) | exact HB.out))
      (case side2 => exact (by (with_reducible repeat (first | refine kN ?_ _ | refine kD ?_ | refine kA ?_ _)); exact BK178.out))
      (case side3 => exact GE178.out)
      (case side4 => exact Kd.R_tight rfl HO176.out)
      (case side5 => exact Kd.C_kept_own ((Kd.R_types (Kd.R_apart' HO181.out (Kd.R_typed HO176.out) (by decide)) BK178.out (by decide))) (fun k_ hk_ hs_ => Or.elim hs_ (fun hs_ => (hk_.1.2) hs_) (fun e_ => (hk_.2) e_)))
      (case side6 => exact (Kd.R_reads' HO181.out).2.1)
      rintro e w66 ⟨v183, rfl, ho0, hi, hb, hkp⟩
      refine ⟨_, rfl, ?_⟩
      have n0_ := Aside0.mk (blk_kept (by (with_reducible repeat (first | refine kN ?_ _ | refine kD ?_ | refine kA ?_ _)); exact BK172.out) hkp (fun hs_ => Or.elim hs_ (fun hs_ => (fun e_ => (Kd.R_ne HO176.out BK172.out (by decide)) e_) hs_) (fun e_ => NB172_178.out e_)))
      have n1_ := Aside0.mk (hi)
      have n2_ := Aside0.mk (Kd.R_mono (ok' := fun k_ => True) (Kd.R_keptB ((Kd.R_types (Kd.R_apart' HO181.out (Kd.R_typed HO176.out) (by decide)) BK178.out (by decide))) hkp (fun k_ hk_ hs_ => Or.elim hs_ (fun hs_ => (hk_.1.2) hs_) (fun e_ => (hk_.2) e_))) (fun k_ hk_ => trivial))
      have n3_ := Aside0.mk (Kd.R_mono (ok' := fun k_ => True) ho0 (fun k_ hk_ => trivial))
      have n4_ := Aside0.mk (hb)
      clear BK172
      clear BK178
      clear HO181
      clear HB
      clear HO176
      have BK172 := n0_
      have BK178 := n1_
      have HO181 := n2_
      have HO184 := n3_
      have HB := n4_
      clear n0_ n1_ n2_ n3_ n4_
      (try clear hb)
      (try clear hkp)
      (try clear hi)
      (try clear ho0)
      refine hK.out _ _ ⟨v175, gb178, .slice Ao65 y179.length co65, v183, m0_, (.pointer (some ⟨gb178, 0, none⟩)), m6_, (by rw [ha.out]; exact putSel_upk 4 hb_ rfl rfl rfl), (by (with_reducible repeat (first | refine kN ?_ _ | refine kD ?_ | refine kA ?_ _)); exact BK172.out), (by repeat (first | (with_reducible first | exact HB.out | apply kL | apply kM | apply kE | refine kS ?_ GE172.out | refine kS ?_ GE178.out) | exact HB.out)), fun _ h1_ => absurd ((up_self b 5).symm.trans h1_) (by decide), fun _ h1_ => absurd ((up_self b 5).symm.trans h1_) (by decide), fun _ => GW178.out, fun _ => GE178.out, fun _ => NB172_178.out, fun _ => NB178_172.out, fun _ => (by (with_reducible repeat (first | apply Kd.R_alloc | apply Kd.R_drewN | apply Kd.R_drew)); exact HO181.out), fun _ => (by (with_reducible repeat (first | apply Kd.R_alloc | apply Kd.R_drewN | apply Kd.R_drew)); exact HO184.out), fun _ => (by (with_reducible repeat (first | refine kN ?_ _ | refine kD ?_ | refine kA ?_ _)); exact BK178.out), Q_X0_, fun _ => rfl, fun h0_ => absurd ((hoff 6 (by kernel_rfl)).symm.trans h0_) (by decide)⟩
     refine steps_cons ?_ ?_
     ·rintro b a w' ⟨v175, gb178, v180, v183, m0_, m5_, m6_, ha, Q_BK172, Q_HB, Q_HO176, Q_BK178, Q_GW178, Q_GE178, Q_NB172_178, Q_NB178_172, Q_HO181, Q_HO184, Q_BK178_e5, Q_X0_, Q_X5_, Q_X6_⟩ hb_ hon hoff
      refine ⟨_, rfl, fun K hK => ?_⟩
      have e12 : a.tmps[12]? = some (m5_) := by rw [ha]; exact putSel_on (e := (5, 12, m5_)) 4 rfl rfl (hon 5 (by kernel_rfl)) rfl
      rw [Q_X5_ (hon 5 (by kernel_rfl))] at e12
      replace ha := Aside0.mk ha
      have BK172 := Aside0.mk Q_BK172
      have HB := Aside0.mk Q_HB
      have GW178 := Aside0.mk (Q_GW178 (hon 0 (by kernel_rfl)))
      have GE178 := Aside0.mk (Q_GE178 (hon 0 (by kernel_rfl)))
      have NB172_178 := Aside0.mk (Q_NB172_178 (hon 0 (by kernel_rfl)))
      have NB178_172 := Aside0.mk (Q_NB178_172 (hon 0 (by kernel_rfl)))
      have HO181 := Aside0.mk (Q_HO181 (hon 4 (by kernel_rfl)))
      have HO184 := Aside0.mk (Q_HO184 (hon 5 (by kernel_rfl)))
      have BK178 := Aside0.mk (Q_BK178_e5 (hon 5 (by kernel_rfl)))
      refine value_ (w1 := w') (v := .pointer (some ⟨gb178, 0, none⟩)) (by rfl) rfl ?_ ?_
      ·go_simp
       (try simp only [i64_w])
       try rfl
      refine hK.out _ _ ⟨v175, gb178, v180, v183, m0_, m5_, (.pointer (some ⟨gb178, 0, none⟩)), (by rw [ha.out]; exact putSel_upk 5 hb_ rfl rfl rfl), Q_BK172, Q_HB, fun _ h1_ => absurd ((hon 5 (by kernel_rfl)).symm.trans h1_) (by decide), fun _ h1_ => absurd ((hon 5 (by kernel_rfl)).symm.trans h1_) (by decide), Q_GW178, Q_GE178, Q_NB172_178, Q_NB178_172, Q_HO181, Q_HO184, Q_BK178_e5, Q_X0_, Q_X5_, fun _ => rfl⟩
     exact steps_nil
    rintro b a w66 hall ⟨v175, gb178, v180, v183, m0_, m5_, m6_, ha, Q_BK172, Q_HB, Q_HO176, Q_BK178, Q_GW178, Q_GE178, Q_NB172_178, Q_NB178_172, Q_HO181, Q_HO184, Q_BK178_e5, Q_X0_, Q_X5_, Q_X6_⟩
    clear BK172 HB
    have hb0_ := hall 0 (by kernel_rfl)
    have hb2_ := hall 2 (by kernel_rfl)
    have hb3_ := hall 3 (by kernel_rfl)
    have hb4_ := hall 4 (by kernel_rfl)
    have hb5_ := hall 5 (by kernel_rfl)
    have hb6_ := hall 6 (by kernel_rfl)
    subst ha
    obtain rfl := Q_X0_ hb0_
    obtain rfl := Q_X5_ hb5_
    obtain rfl := Q_X6_ hb6_
    simp only [putSel, hb0_, hb2_, hb3_, hb4_, hb5_, hb6_, if_true, Act.put, List.setIfInBounds_toArray, List.set_cons_zero, List.set_cons_succ]
    have BK172 := Aside0.mk Q_BK172
    clear Q_BK172
    have HB := Aside0.mk Q_HB
    clear Q_HB
    clear Q_HO176
    clear Q_BK178
    have GW178 := Aside0.mk (Q_GW178 hb0_)
    clear Q_GW178
    have GE178 := Aside0.mk (Q_GE178 hb0_)
    clear Q_GE178
    have NB172_178 := Aside0.mk (Q_NB172_178 hb0_)
    clear Q_NB172_178
    have NB178_172 := Aside0.mk (Q_NB178_172 hb0_)
    clear Q_NB178_172
    have HO181 := Aside0.mk (Q_HO181 hb4_)
    clear Q_HO181
    have HO184 := Aside0.mk (Q_HO184 hb5_)
    clear Q_HO184
    have BK178 := Aside0.mk (Q_BK178_e5 hb5_)
    clear Q_BK178_e5
    clear hall hb0_ hb2_ hb3_ hb4_ hb5_ hb6_
    have hnb67 := NB172_178.out
    have hnc67 := NB178_172.out
    obtain ⟨hcz68_0, hcz68_1, hcz68_2, hcz68_3, hcz68_4, hcz68_5, hcz68_6, hcz68_7, hcz68_8, hcz68_9, hcz68_10, hcz68_11, hcz68_12, hcz68_13, hcz68_14, hcz68_15, hfz68_0, hfz68_1, hfz68_2, hfz68_3, hfz68_4, hfz68_5, hfz68_6, hfz68_7, hfz68_8, hfz68_9, hfz68_10, hfz68_11, hfz68_12, hfz68_13, hfz68_14, hfz68_15⟩ := bxc16 BK172.out
    try go_wp2_with (first | ((with_reducible refine gate_callee (f := 26) rfl ?_); refine goesL_ (some 20) rfl rfl Try.func26 (by kernel_rfl) rfl #[.int .u8 a0_0] rfl (by (try simp only [List.map_toArray, List.map_cons, List.map_nil]); first | done | rfl | (simp only [List.length_drop, List.length_take]; rfl)) ?_; (with_reducible refine (order_subs.calls a0_0 false _ A6.out).mono ?_); rintro e w' ⟨rfl, ⟨nd, rfl⟩⟩; refine ⟨_, rfl, ?_⟩) | ((with_reducible refine gate_callee (f := 31) rfl ?_); refine goesL_ (some 41) rfl rfl Try.func31 (by kernel_rfl) rfl #[.pointer (some ⟨gb178, 0, none⟩), .agg #[.int .i64 a0_4, .int .u8 a0_5, .int .i64 a0_6, .int .i64 a0_7, .bool a0_8, .bool a0_9]] rfl (by (try simp only [List.map_toArray, List.map_cons, List.map_nil]); first | done | rfl | (simp only [List.length_drop, List.length_take]; rfl)) ?_; (with_reducible refine (plan_Put.calls k gb178 (fun k_ => some k_ = (v183 : Value).ownBlock) v183 t182 t185 a0_4 a0_5 a0_6 a0_7 a0_8 a0_9 t216 t219 w _ ?side1 ?side2 ?side3 ?side4 A55.out).mono ?_); (case side1 => repeat (first | (with_reducible first | exact HB.out | apply kL | apply kM | apply kE | refine kS ?_ GE172.out | refine kS ?_ GE178.out) | exact HB.out)); (case side2 => exact (by (with_reducible repeat (first | refine kN ?_ _ | refine kD ?_ | refine kA ?_ _)); exact BK178.out)); (case side3 => exact GE178.out); (case side4 => exact Kd.R_tight rfl HO184.out); rintro e w69 ⟨v217, rfl, ho0, hi, hb, hkp⟩; refine ⟨_, rfl, ?_⟩; have n0_ := Aside0.mk (blk_kept (by (with_reducible repeat (first | refine kN ?_ _ | refine kD ?_ | refine kA ?_ _)); exact BK172.out) hkp (fun hs_ => Or.elim hs_ (fun hs_ => (fun e_ => (Kd.R_ne HO184.out BK172.out (by decide)) e_) hs_) (fun e_ => NB172_178.out e_))); have n1_ := Aside0.mk (hi); have n2_ := Aside0.mk (Kd.R_mono (ok' := fun k_ => True) (Kd.R_keptB ((Kd.R_types (Kd.R_apart' HO181.out (Kd.R_typed HO184.out) (by decide)) BK178.out (by decide))) hkp (fun k_ hk_ hs_ => Or.elim hs_ (fun hs_ => (hk_.1.2) hs_) (fun e_ => (hk_.2) e_))) (fun k_ hk_ => trivial)); have n3_ := Aside0.mk (Kd.R_mono (ok' := fun k_ => True) ho0 (fun k_ hk_ => trivial)); have n4_ := Aside0.mk (hb); clear BK172; clear BK178; clear HO181; clear HB; clear HO184; have BK172 := n0_; have BK178 := n1_; have HO181 := n2_; have HO218 := n3_; have HB := n4_; clear n0_ n1_ n2_ n3_ n4_; (try clear hb); (try clear hkp); (try clear hi); (try clear ho0)) | ((with_reducible refine gate_callee (f := 20) rfl ?_); refine goesL_ (some 52) rfl rfl Try.func20 (by kernel_rfl) rfl #[.pointer (some ⟨gb178, 0, none⟩)] rfl (by (try simp only [List.map_toArray, List.map_cons, List.map_nil]); first | done | rfl | (simp only [List.length_drop, List.length_take]; rfl)) ?_; (with_reducible refine (pack_Box_Done.calls gb178 (fun k_ => some k_ = (v217 : Value).ownBlock) v217 t216 t219 t220 t223 t226 w _ ?side1 ?side2 ?side3 ?side4 A56.out).mono ?_); (case side1 => repeat (first | (with_reducible first | exact HB.out | apply kL | apply kM | apply kE | refine kS ?_ GE172.out | refine kS ?_ GE178.out) | exact HB.out)); (case side2 => exact (by (with_reducible repeat (first | refine kN ?_ _ | refine kD ?_ | refine kA ?_ _)); exact BK178.out)); (case side3 => exact GE178.out); (case side4 => exact Kd.R_tight rfl HO218.out); rintro e w70 ⟨v221, v224, rfl, ho0, ho1, hi, hb, hkp⟩; refine ⟨_, rfl, ?_⟩; have n0_ := Aside0.mk (blk_kept (by (with_reducible repeat (first | refine kN ?_ _ | refine kD ?_ | refine kA ?_ _)); exact BK172.out) hkp (fun hs_ => Or.elim hs_ (fun hs_ => (fun e_ => (Kd.R_ne HO218.out BK172.out (by decide)) e_) hs_) (fun e_ => NB172_178.out e_))); have n1_ := Aside0.mk (hi); have n2_ := Aside0.mk (Kd.R_mono (ok' := fun k_ => True) (Kd.R_keptB ((Kd.R_types (Kd.R_apart' HO181.out (Kd.R_typed HO218.out) (by decide)) BK178.out (by decide))) hkp (fun k_ hk_ hs_ => Or.elim hs_ (fun hs_ => (hk_.1.2) hs_) (fun e_ => (hk_.2) e_))) (fun k_ hk_ => trivial)); have n3_ := Aside0.mk (Kd.R_mono (ok' := fun k_ => some k_ ≠ (v224 : Value).ownBlock) ho0 (fun k_ hk_ => hk_.2)); have n4_ := Aside0.mk (Kd.R_mono (ok' := fun k_ => some k_ ≠ (v221 : Value).ownBlock) ho1 (fun k_ hk_ => hk_.2)); have n5_ := Aside0.mk (hb); clear BK172; clear BK178; clear HO181; clear HB; clear HO218; have BK172 := n0_; have BK178 := n1_; have HO181 := n2_; have HO222 := n3_; have HO225 := n4_; have HB := n5_; clear n0_ n1_ n2_ n3_ n4_ n5_; (try clear hb); (try clear hkp); (try clear hi); (try clear ho0); (try clear ho1)))
    go_ret
    exact ⟨_, by first | rfl | (simp [errW_none, errW_some] <;> rfl) | (simp [*, errW_none, errW_some] <;> rfl), by (with_reducible repeat (first | apply Kd.R_alloc | apply Kd.R_drewN | apply Kd.R_drew)); exact Kd.R_mono HO222.out (fun _ hk => trivial), by repeat (first | (with_reducible first | exact HB.out | apply kL | apply kM | apply kE | refine kS ?_ GE172.out | refine kS ?_ GE178.out) | exact HB.out)⟩
   ·rw [if_neg c54] at H
    have c54b0 : (a0_0 == 1) = false := beq_eq_false_iff_ne.mpr c54
    have c54b1 : (a0_0 != 1) = true := bne_iff_ne.mpr c54
    by_cases c71 : a0_0 = 9
    ·rw [if_pos c71] at H
     have c71b0 : (a0_0 == 9) = true := beq_iff_eq.mpr c71
     have c71b1 : (a0_0 != 9) = false := bne_eq_false_iff_eq.mpr c71
     clear c71
     obtain ⟨y227, hy227⟩ : ∃ y_ : List Int, y_ = (([a0_3] : List Int)) := ⟨_, rfl⟩
     replace H : ((pack_Box_Put.f k t182 t185 y227).bind fun bt230 => ((pack_Box_Done.f bt230.1 bt230.2).bind fun bt234 => (some bt234.1))) = some r := by first | (rw [hy227]; with_reducible exact H) | (have H2_ := (Option.bind_some _ _).symm.trans H; rw [hy227]; with_reducible exact H2_) | (have H2_ := (Option.bind_some _ _).symm.trans H; with_reducible exact H2_) | with_reducible exact H | (rw [hy227]; exact H) | exact H
     have Ny227 := Aside0.mk hy227
     clear hy227
     replace H := Option.bind_eq_some_iff.mp H
     obtain ⟨⟨t230, t233⟩, A720, H⟩ := H
     replace H : ((pack_Box_Done.f t230 t233).bind fun bt234 => (some bt234.1)) = some r := H
     have A72 := Aside0.mk A720
     clear A720
     replace H := Option.bind_eq_some_iff.mp H
     obtain ⟨⟨t234, t237, t240⟩, A730, H⟩ := H
     replace H : (some t234) = some r := H
     have A73 := Aside0.mk A730
     clear A730
     obtain rfl := Option.some.inj H
     go_enter Try.func15, Try.ntmps15
     try go_wp2_with (first | ((with_reducible refine gate_dst (N := 1) rfl ?_); refine box_event ?hg (N := 1) ?hd (cs := #[.int .u8 a0_0, .int .i64 a0_1, .int .i64 a0_2, .int .i64 a0_3, .int .i64 a0_4, .int .u8 a0_5, .int .i64 a0_6, .int .i64 a0_7, .bool a0_8, .bool a0_9, .int .u8 a0_10, .int .i64 a0_11, .int .i64 a0_12, .int .i64 a0_13, .int .i64 a0_14, .int .u8 a0_15]) (t := 27) ?hr ?_; (case hd => rfl); (case hg => rfl); (case hr => first | (go_simp; done) | (go_simp; rfl)); intro gb172 hg w74 hbox hb; have n0_ := Aside0.mk (below_step (by repeat (first | (with_reducible first | exact HB.out | apply kL | apply kM | apply kE) | exact HB.out)) hb); have n1_ := Aside0.mk (hbox); have n2_ := Aside0.mk ((by rw [hg]; exact (below_size (by repeat (first | (with_reducible first | exact HB.out | apply kL | apply kM | apply kE) | exact HB.out))) : w.heap.size ≤ gb172)); have n3_ := Aside0.mk ((by rw [hg]; exact (below_size (by repeat (first | (with_reducible first | exact HB.out | apply kL | apply kM | apply kE) | exact HB.out))) : w.heap.size ≤ gb172)); clear HB; have HB := n0_; have BK172 := n1_; have GW172 := n2_; have GE172 := n3_; clear n0_ n1_ n2_ n3_; clear hb hbox hg; obtain ⟨hcz75_0, hcz75_1, hcz75_2, hcz75_3, hcz75_4, hcz75_5, hcz75_6, hcz75_7, hcz75_8, hcz75_9, hcz75_10, hcz75_11, hcz75_12, hcz75_13, hcz75_14, hcz75_15, hfz75_0, hfz75_1, hfz75_2, hfz75_3, hfz75_4, hfz75_5, hfz75_6, hfz75_7, hfz75_8, hfz75_9, hfz75_10, hfz75_11, hfz75_12, hfz75_13, hfz75_14, hfz75_15⟩ := bxc16 BK172.out) | ((with_reducible refine gate_dst (N := 4) rfl ?_); refine wpList_load_row rfl 27 (.tmp 1) rfl gb172 rfl 27 #[.int .u8 a0_0, .int .i64 a0_1, .int .i64 a0_2, .int .i64 a0_3, .int .i64 a0_4, .int .u8 a0_5, .int .i64 a0_6, .int .i64 a0_7, .bool a0_8, .bool a0_9, .int .u8 a0_10, .int .i64 a0_11, .int .i64 a0_12, .int .i64 a0_13, .int .i64 a0_14, .int .u8 a0_15] (0, 0) _ (by (with_reducible repeat (first | refine kN ?_ _ | refine kD ?_ | refine kA ?_ _)); exact BK172.out) Try.underlying27 rfl (by kernel_rfl) ?_) | ((with_reducible refine gate_callee (f := 11) rfl ?_); refine goesL_ (some 5) rfl rfl Try.func11 (by kernel_rfl) rfl #[.agg #[.int .u8 a0_0, .int .i64 a0_1, .int .i64 a0_2, .int .i64 a0_3, .int .i64 a0_4, .int .u8 a0_5, .int .i64 a0_6, .int .i64 a0_7, .bool a0_8, .bool a0_9, .int .u8 a0_10, .int .i64 a0_11, .int .i64 a0_12, .int .i64 a0_13, .int .i64 a0_14, .int .u8 a0_15]] rfl (by (try simp only [List.map_toArray, List.map_cons, List.map_nil]); first | done | rfl | (simp only [List.length_drop, List.length_take]; rfl)) ?_; (with_reducible refine (order_Right.calls k a0_0 a0_1 a0_2 a0_3 a0_4 a0_5 a0_6 a0_7 a0_8 a0_9 a0_10 a0_11 a0_12 a0_13 a0_14 a0_15 t173 _ A2.out).mono ?_); rintro e w76 ⟨rfl, hb⟩; refine ⟨_, rfl, ?_⟩; have n0_ := Aside0.mk (blk_below (g := gb172) (o := .cells #[.int .u8 a0_0, .int .i64 a0_1, .int .i64 a0_2, .int .i64 a0_3, .int .i64 a0_4, .int .u8 a0_5, .int .i64 a0_6, .int .i64 a0_7, .bool a0_8, .bool a0_9, .int .u8 a0_10, .int .i64 a0_11, .int .i64 a0_12, .int .i64 a0_13, .int .i64 a0_14, .int .u8 a0_15] 27 (0, 0)) (by (with_reducible repeat (first | refine kN ?_ _ | refine kD ?_ | refine kA ?_ _)); exact BK172.out) hb); have n1_ := Aside0.mk (below_step (by repeat (first | (with_reducible first | exact HB.out | apply kL | apply kM | apply kE | refine kS ?_ GE172.out) | exact HB.out)) hb); clear BK172; clear HB; have BK172 := n0_; have HB := n1_; clear n0_ n1_; (try clear hb); (try clear hb2); (try clear hk); (try clear hi)))
     have n0_ := Aside0.mk (kD BK172.out)
     have n1_ := Aside0.mk (kE HB.out)
     clear BK172
     clear HB
     have BK172 := n0_
     have HB := n1_
     clear n0_ n1_
     refine start_ (n := 7) (S := fun w' => True) (ds := []) #[false, false, false, false, false, false, false] (by kernel_rfl) rfl rfl trivial (fun hHeld => ?_); refine with_tabW order_Encode.tab3 order_Encode.bits3 (fun HT_ HW_ => ?_)
     generalize w76.drew = w77 at BK172 HB hHeld ⊢
     refine pure_ (i := 1) (N := some 8) (v := ?_) (a' := ?_) #[false, true, false, false, false, false, false] rfl rfl (any_of HT_.out (by kernel_rfl)) (fun _ _ _ h => h) (Or.inl ⟨by rfl, ?_⟩) ?_ ?_
     rotate_left
     ·intro w'
      go_simp
      with_reducible rfl
     rotate_left
     ·simp only [Act.put, List.setIfInBounds_toArray, List.set_cons_zero, List.set_cons_succ, i64_w, i32_w]
      rfl
     refine inv_at [0, 2, 3, 4, 5, 6] (fun a0_ b a w' => ∃ (v175 : Value) (gb178 : Nat) (v180 : Value) (v183 : Value) (m0_ : Value) (m5_ : Value) (m6_ : Value), a = putSel a0_ b [(0, 7, m0_), (2, 9, .int .u8 a0_0), (3, 10, .int .i64 (wrap64 (a0_0))), (4, 11, v180), (5, 12, m5_), (6, 3, m6_)] ∧ (w'.heap[gb172]? = some (.cells #[.int .u8 a0_0, .int .i64 a0_1, .int .i64 a0_2, .int .i64 a0_3, .int .i64 a0_4, .int .u8 a0_5, .int .i64 a0_6, .int .i64 a0_7, .bool a0_8, .bool a0_9, .int .u8 a0_10, .int .i64 a0_11, .int .i64 a0_12, .int .i64 a0_13, .int .i64 a0_14, .int .u8 a0_15] 27 (0, 0))) ∧ (Below w.heap.size w w') ∧ (b 0 = true → b 5 = false → Kd.R (Kd.int .u8) 5 w' w.heap.size (fun _ => True) v175 t174) ∧ (b 0 = true → b 5 = false → w'.heap[gb178]? = some (.cells #[v175, .int .i64 t177] 60 (0, 0))) ∧ (b 0 = true → w.heap.size ≤ gb178) ∧ (b 0 = true → w.heap.size ≤ gb178) ∧ (b 0 = true → gb172 ≠ gb178) ∧ (b 0 = true → gb178 ≠ gb172) ∧ (b 4 = true → Kd.R (Kd.int .i64) 2 w' w.heap.size (fun _ => True) v180 y179) ∧ (b 5 = true → Kd.R (Kd.int .u8) 5 w' w.heap.size (fun _ => True) v183 t182) ∧ (b 5 = true → w'.heap[gb178]? = some (.cells #[v183, .int .i64 t185] 60 (0, 0))) ∧ (b 0 = true → (m0_ : Value) = .pointer (some ⟨gb178, 0, none⟩)) ∧ (b 5 = true → (m5_ : Value) = .pointer (some ⟨gb178, 0, none⟩)) ∧ (b 6 = true → (m6_ : Value) = .pointer (some ⟨gb178, 0, none⟩))) HT_.out HW_.out (by kernel_rfl) (by kernel_rfl) ?_ ?_ ?_
     ·exact ⟨.bool false, 0, .bool false, .bool false, .bool false, .bool false, .bool false, by simp only [putSel, Bool.false_eq_true, if_false], BK172.out, HB.out, fun h_ => absurd h_ (by decide), fun h_ => absurd h_ (by decide), fun h_ => absurd h_ (by decide), fun h_ => absurd h_ (by decide), fun h_ => absurd h_ (by decide), fun h_ => absurd h_ (by decide), fun h_ => absurd h_ (by decide), fun h_ => absurd h_ (by decide), fun h_ => absurd h_ (by decide), fun h_ => absurd h_ (by decide), fun h_ => absurd h_ (by decide), fun h_ => absurd h_ (by decide)⟩
     ·skip
      clear BK172 HB
      refine steps_cons ?_ ?_
      ·rintro b a w' ⟨v175, gb178, v180, v183, m0_, m5_, m6_, ha, Q_BK172, Q_HB, Q_HO176, Q_BK178, Q_GW178, Q_GE178, Q_NB172_178, Q_NB178_172, Q_HO181, Q_HO184, Q_BK178_e5, Q_X0_, Q_X5_, Q_X6_⟩ hb_ hon hoff
       refine ⟨_, rfl, fun K hK => ?_⟩
       replace ha := Aside0.mk ha
       have BK172 := Aside0.mk Q_BK172
       have HB := Aside0.mk Q_HB
       refine goes_ Try.func17 (by kernel_rfl) rfl #[] (by rfl) rfl rfl (by first | (simp only [List.map_toArray, List.map_cons, List.map_nil, Act.eval, Array.getD_eq_getD_getElem?, Option.getD_some]; done) | (simp only [List.map_toArray, List.map_cons, List.map_nil, Act.eval, Array.getD_eq_getD_getElem?, Option.getD_some]; rfl)) ?_
       with_reducible refine (pack_New.calls  t174 t177 _ A4.out).mono ?_
       rintro e w78 ⟨v175, gb178, rfl, ho0, hnb178, hnl178, hb⟩
       refine ⟨_, rfl, ?_⟩
       have n0_ := Aside0.mk (Kd.R_lower ho0 (below_size (by repeat (first | (with_reducible first | exact HB.out | apply kL | apply kM | apply kE | refine kS ?_ GE172.out) | exact HB.out))))
       have n1_ := Aside0.mk (blk_below (g := gb172) (o := .cells #[.int .u8 a0_0, .int .i64 a0_1, .int .i64 a0_2, .int .i64 a0_3, .int .i64 a0_4, .int .u8 a0_5, .int .i64 a0_6, .int .i64 a0_7, .bool a0_8, .bool a0_9, .int .u8 a0_10, .int .i64 a0_11, .int .i64 a0_12, .int .i64 a0_13, .int .i64 a0_14, .int .u8 a0_15] 27 (0, 0)) (by (with_reducible repeat (first | refine kN ?_ _ | refine kD ?_ | refine kA ?_ _)); exact BK172.out) hb)
       have n2_ := Aside0.mk (hnb178)
       have n3_ := Aside0.mk ((Nat.le_trans (below_size (by repeat (first | (with_reducible first | exact HB.out | apply kL | apply kM | apply kE | refine kS ?_ GE172.out) | exact HB.out))) hnl178 : w.heap.size ≤ gb178))
       have n4_ := Aside0.mk ((Nat.le_trans (below_size (by repeat (first | (with_reducible first | exact HB.out | apply kL | apply kM | apply kE | refine kS ?_ GE172.out) | exact HB.out))) hnl178 : w.heap.size ≤ gb178))
       have n5_ := Aside0.mk ((Nat.ne_of_lt (Nat.lt_of_lt_of_le (blk_lt (g := gb172) (o := .cells #[.int .u8 a0_0, .int .i64 a0_1, .int .i64 a0_2, .int .i64 a0_3, .int .i64 a0_4, .int .u8 a0_5, .int .i64 a0_6, .int .i64 a0_7, .bool a0_8, .bool a0_9, .int .u8 a0_10, .int .i64 a0_11, .int .i64 a0_12, .int .i64 a0_13, .int .i64 a0_14, .int .u8 a0_15] 27 (0, 0)) (by (with_reducible repeat (first | refine kN ?_ _ | refine kD ?_ | refine kA ?_ _)); exact BK172.out)) hnl178) : gb172 ≠ gb178))
       have n6_ := Aside0.mk ((Nat.ne_of_gt (Nat.lt_of_lt_of_le (blk_lt (g := gb172) (o := .cells #[.int .u8 a0_0, .int .i64 a0_1, .int .i64 a0_2, .int .i64 a0_3, .int .i64 a0_4, .int .u8 a0_5, .int .i64 a0_6, .int .i64 a0_7, .bool a0_8, .bool a0_9, .int .u8 a0_10, .int .i64 a0_11, .int .i64 a0_12, .int .i64 a0_13, .int .i64 a0_14, .int .u8 a0_15] 27 (0, 0)) (by (with_reducible repeat (first | refine kN ?_ _ | refine kD ?_ | refine kA ?_ _)); exact BK172.out)) hnl178) : gb178 ≠ gb172))
       have n7_ := Aside0.mk (below_step (by repeat (first | (with_reducible first | exact HB.out | apply kL | apply kM | apply kE | refine kS ?_ GE172.out) | exact HB.out)) hb)
       have z_HO181 := fun (h0_ : b 4 = true) => (show Kd.R (Kd.int .i64) 2 w78 w.heap.size (fun _ => True) v180 y179 from by first | exact (Kd.R_below (by (with_reducible repeat (first | apply Kd.R_alloc | apply Kd.R_drewN | apply Kd.R_drew)); exact (Q_HO181 h0_)) hb) | exact Kd.R_mono (Kd.R_below (by (with_reducible repeat (first | apply Kd.R_alloc | apply Kd.R_drewN | apply Kd.R_drew)); exact (Q_HO181 h0_)) hb) (fun _ h_ => by first | trivial | exact h_ | exact h_.1))
       clear BK172
       clear HB
       have HO176 := n0_
       have BK172 := n1_
       have BK178 := n2_
       have GW178 := n3_
       have GE178 := n4_
       have NB172_178 := n5_
       have NB178_172 := n6_
       have HB := n7_
       clear n0_ n1_ n2_ n3_ n4_ n5_ n6_ n7_
       (try clear hb)
       (try clear hb2)
       (try clear hk)
       (try clear hi)
       (try clear ho0)
       refine hK.out _ _ ⟨v175, gb178, v180, v183, (.pointer (some ⟨gb178, 0, none⟩)), m5_, m6_, (by rw [ha.out]; exact putSel_upk 0 hb_ rfl rfl rfl), (by (with_reducible repeat (first | refine kN ?_ _ | refine kD ?_ | refine kA ?_ _)); exact BK172.out), (by repeat (first | (with_reducible first | exact HB.out | apply kL | apply kM | apply kE | refine kS ?_ GE172.out | refine kS ?_ GE178.out) | exact HB.out)), fun _ _ => (by (with_reducible repeat (first | apply Kd.R_alloc | apply Kd.R_drewN | apply Kd.R_drew)); exact HO176.out), fun _ _ => (by (with_reducible repeat (first | refine kN ?_ _ | refine kD ?_ | refine kA ?_ _)); exact BK178.out), fun _ => GW178.out, fun _ => GE178.out, fun _ => NB172_178.out, fun _ => NB178_172.out, z_HO181, fun h0_ => absurd ((hoff 5 (by kernel_rfl)).symm.trans h0_) (by decide), fun h0_ => absurd ((hoff 5 (by kernel_rfl)).symm.trans h0_) (by decide), fun _ => rfl, fun h0_ => absurd ((hoff 5 (by kernel_rfl)).symm.trans h0_) (by decide), fun h0_ => absurd ((hoff 6 (by kernel_rfl)).symm.trans h0_) (by decide)⟩
      refine steps_cons ?_ ?_
      ·rintro b a w' ⟨v175, gb178, v180, v183, m0_, m5_, m6_, ha, Q_BK172, Q_HB, Q_HO176, Q_BK178, Q_GW178, Q_GE178, Q_NB172_178, Q_NB178_172, Q_HO181, Q_HO184, Q_BK178_e5, Q_X0_, Q_X5_, Q_X6_⟩ hb_ hon hoff
       refine ⟨_, rfl, fun K hK => ?_⟩
       have e8 : a.tmps[8]? = some (.pointer (some ⟨gb172, 0, none⟩)) := by rw [ha]; exact (putSel_off rfl).trans rfl
       replace ha := Aside0.mk ha
       have BK172 := Aside0.mk Q_BK172
       have HB := Aside0.mk Q_HB
       have hc0_ : w'.cell? ⟨gb172, 0, none⟩ = some (.int .u8 a0_0) := (kC BK172.out 0).trans rfl
       have hc1_ : w'.cell? ⟨gb172, 1, none⟩ = some (.int .i64 a0_1) := (kC BK172.out 1).trans rfl
       have hc2_ : w'.cell? ⟨gb172, 2, none⟩ = some (.int .i64 a0_2) := (kC BK172.out 2).trans rfl
       have hc3_ : w'.cell? ⟨gb172, 3, none⟩ = some (.int .i64 a0_3) := (kC BK172.out 3).trans rfl
       have hc4_ : w'.cell? ⟨gb172, 4, none⟩ = some (.int .i64 a0_4) := (kC BK172.out 4).trans rfl
       have hc5_ : w'.cell? ⟨gb172, 5, none⟩ = some (.int .u8 a0_5) := (kC BK172.out 5).trans rfl
       have hc6_ : w'.cell? ⟨gb172, 6, none⟩ = some (.int .i64 a0_6) := (kC BK172.out 6).trans rfl
       have hc7_ : w'.cell? ⟨gb172, 7, none⟩ = some (.int .i64 a0_7) := (kC BK172.out 7).trans rfl
       have hc8_ : w'.cell? ⟨gb172, 8, none⟩ = some (.bool a0_8) := (kC BK172.out 8).trans rfl
       have hc9_ : w'.cell? ⟨gb172, 9, none⟩ = some (.bool a0_9) := (kC BK172.out 9).trans rfl
       have hc10_ : w'.cell? ⟨gb172, 10, none⟩ = some (.int .u8 a0_10) := (kC BK172.out 10).trans rfl
       have hc11_ : w'.cell? ⟨gb172, 11, none⟩ = some (.int .i64 a0_11) := (kC BK172.out 11).trans rfl
       have hc12_ : w'.cell? ⟨gb172, 12, none⟩ = some (.int .i64 a0_12) := (kC BK172.out 12).trans rfl
       have hc13_ : w'.cell? ⟨gb172, 13, none⟩ = some (.int .i64 a0_13) := (kC BK172.out 13).trans rfl
       have hc14_ : w'.cell? ⟨gb172, 14, none⟩ = some (.int .i64 a0_14) := (kC BK172.out 14).trans rfl
       have hc15_ : w'.cell? ⟨gb172, 15, none⟩ = some (.int .u8 a0_15) := (kC BK172.out 15).trans rfl
       refine value_ (w1 := w') (v := .int .u8 a0_0) (by rfl) rfl ?_ ?_
       ·go_simp
        (try simp only [i64_w])
        try rfl
       refine hK.out _ _ ⟨v175, gb178, v180, v183, m0_, m5_, m6_, (by rw [ha.out]; exact putSel_upk 1 hb_ rfl rfl rfl), Q_BK172, Q_HB, Q_HO176, Q_BK178, Q_GW178, Q_GE178, Q_NB172_178, Q_NB178_172, fun h0_ => absurd ((hoff 4 (by kernel_rfl)).symm.trans h0_) (by decide), fun h0_ => absurd ((hoff 5 (by kernel_rfl)).symm.trans h0_) (by decide), fun h0_ => absurd ((hoff 5 (by kernel_rfl)).symm.trans h0_) (by decide), Q_X0_, fun h0_ => absurd ((hoff 5 (by kernel_rfl)).symm.trans h0_) (by decide), fun h0_ => absurd ((hoff 6 (by kernel_rfl)).symm.trans h0_) (by decide)⟩
      refine steps_cons ?_ ?_
      ·rintro b a w' ⟨v175, gb178, v180, v183, m0_, m5_, m6_, ha, Q_BK172, Q_HB, Q_HO176, Q_BK178, Q_GW178, Q_GE178, Q_NB172_178, Q_NB178_172, Q_HO181, Q_HO184, Q_BK178_e5, Q_X0_, Q_X5_, Q_X6_⟩ hb_ hon hoff
       refine ⟨_, rfl, fun K hK => ?_⟩
       have e9 : a.tmps[9]? = some (.int .u8 a0_0) := by rw [ha]; exact putSel_on (e := (2, 9, .int .u8 a0_0)) 1 rfl rfl (hon 2 (by kernel_rfl)) rfl
       replace ha := Aside0.mk ha
       have BK172 := Aside0.mk Q_BK172
       have HB := Aside0.mk Q_HB
       refine value_ (w1 := w') (v := .int .i64 (wrap64 (a0_0))) (by rfl) rfl ?_ ?_
       ·go_simp
        (try simp only [i64_w])
        try rfl
       refine hK.out _ _ ⟨v175, gb178, v180, v183, m0_, m5_, m6_, (by rw [ha.out]; exact putSel_upk 2 hb_ rfl rfl rfl), Q_BK172, Q_HB, Q_HO176, Q_BK178, Q_GW178, Q_GE178, Q_NB172_178, Q_NB178_172, fun h0_ => absurd ((hoff 4 (by kernel_rfl)).symm.trans h0_) (by decide), fun h0_ => absurd ((hoff 5 (by kernel_rfl)).symm.trans h0_) (by decide), fun h0_ => absurd ((hoff 5 (by kernel_rfl)).symm.trans h0_) (by decide), Q_X0_, fun h0_ => absurd ((hoff 5 (by kernel_rfl)).symm.trans h0_) (by decide), fun h0_ => absurd ((hoff 6 (by kernel_rfl)).symm.trans h0_) (by decide)⟩
      refine steps_cons ?_ ?_
      ·rintro b a w' ⟨v175, gb178, v180, v183, m0_, m5_, m6_, ha, Q_BK172, Q_HB, Q_HO176, Q_BK178, Q_GW178, Q_GE178, Q_NB172_178, Q_NB178_172, Q_HO181, Q_HO184, Q_BK178_e5, Q_X0_, Q_X5_, Q_X6_⟩ hb_ hon hoff
       refine ⟨_, rfl, fun K hK => ?_⟩
       have e10 : a.tmps[10]? = some (.int .i64 (wrap64 (a0_0))) := by rw [ha]; exact putSel_on (e := (3, 10, .int .i64 (wrap64 (a0_0)))) 2 rfl rfl (hon 3 (by kernel_rfl)) rfl
       replace ha := Aside0.mk ha
       have BK172 := Aside0.mk Q_BK172
       have HB := Aside0.mk Q_HB
       refine Kd.R_lit_step (Kd.int .i64) _ 2 ?hg (N := 11) ?hd (xs := ([wrap64 (a0_0)] : List Int)) (inner := [.int .i64 (wrap64 (a0_0))]) (ok := fun _ => True) (okp := fun _ => True) ?hr ?hp (fun _ hk => hk) trivial (Below.refl _ _) (Nat.le_refl _) (by simp) ?_; (case hd => rfl); (case hg => rfl); (case hr => first | (go_simp; done) | (go_simp; rfl)); (case hp => exact (Reps.one (show Kd.M (Kd.int .i64) _ _ _ (wrap64 (a0_0)) [.int .i64 (wrap64 (a0_0))] from rfl) (Reps.none _ _)))
       intro v180 w78 ho79 hb hg_ hnew_
       clear hg_ hnew_
       (first | rw [← Ny179.out] at ho79 | (simp only [Int.reduceToNat] at ho79; rw [← Ny179.out] at ho79))
       have n0_ := Aside0.mk (Kd.R_lower ho79 (below_size (by repeat (first | (with_reducible first | exact HB.out | apply kL | apply kM | apply kE | refine kS ?_ GE172.out) | exact HB.out))))
       have n1_ := Aside0.mk (blk_below (g := gb172) (o := .cells #[.int .u8 a0_0, .int .i64 a0_1, .int .i64 a0_2, .int .i64 a0_3, .int .i64 a0_4, .int .u8 a0_5, .int .i64 a0_6, .int .i64 a0_7, .bool a0_8, .bool a0_9, .int .u8 a0_10, .int .i64 a0_11, .int .i64 a0_12, .int .i64 a0_13, .int .i64 a0_14, .int .u8 a0_15] 27 (0, 0)) (by (with_reducible repeat (first | refine kN ?_ _ | refine kD ?_ | refine kA ?_ _)); exact BK172.out) hb)
       have n2_ := Aside0.mk (below_step (by repeat (first | (with_reducible first | exact HB.out | apply kL | apply kM | apply kE | refine kS ?_ GE172.out) | exact HB.out)) hb)
       have z_HO176 := fun (h0_ : b 0 = true) (h1_ : b 5 = false) => (show Kd.R (Kd.int .u8) 5 w78 w.heap.size (fun _ => True) v175 t174 from by first | exact (Kd.R_below (by (with_reducible repeat (first | apply Kd.R_alloc | apply Kd.R_drewN | apply Kd.R_drew)); exact (Q_HO176 h0_ h1_)) hb) | exact Kd.R_mono (Kd.R_below (by (with_reducible repeat (first | apply Kd.R_alloc | apply Kd.R_drewN | apply Kd.R_drew)); exact (Q_HO176 h0_ h1_)) hb) (fun _ h_ => by first | trivial | exact h_ | exact h_.1))
       have z_BK178 := fun (h0_ : b 0 = true) (h1_ : b 5 = false) => (show w78.heap[gb178]? = some (.cells #[v175, .int .i64 t177] 60 (0, 0)) from by first | exact (blk_below (g := gb178) (o := .cells #[v175, .int .i64 t177] 60 (0, 0)) (by (with_reducible repeat (first | refine kN ?_ _ | refine kD ?_ | refine kA ?_ _)); exact (Q_BK178 h0_ h1_)) hb))
       clear BK172
       clear HB
       have HO181 := n0_
       have BK172 := n1_
       have HB := n2_
       clear n0_ n1_ n2_
       clear hb ho79
       refine hK.out _ _ ⟨v175, gb178, v180, v183, m0_, m5_, m6_, (by rw [ha.out]; exact putSel_upk 3 hb_ rfl rfl rfl), (by (with_reducible repeat (first | refine kN ?_ _ | refine kD ?_ | refine kA ?_ _)); exact BK172.out), (by repeat (first | (with_reducible first | exact HB.out | apply kL | apply kM | apply kE | refine kS ?_ GE172.out) | exact HB.out)), z_HO176, z_BK178, Q_GW178, Q_GE178, Q_NB172_178, Q_NB178_172, fun _ => (by (with_reducible repeat (first | apply Kd.R_alloc | apply Kd.R_drewN | apply Kd.R_drew)); exact HO181.out), fun h0_ => absurd ((hoff 5 (by kernel_rfl)).symm.trans h0_) (by decide), fun h0_ => absurd ((hoff 5 (by kernel_rfl)).symm.trans h0_) (by decide), Q_X0_, fun h0_ => absurd ((hoff 5 (by kernel_rfl)).symm.trans h0_) (by decide), fun h0_ => absurd ((hoff 6 (by kernel_rfl)).symm.trans h0_) (by decide)⟩
      refine steps_cons ?_ ?_
      ·rintro b a w' ⟨v175, gb178, v180, v183, m0_, m5_, m6_, ha, Q_BK172, Q_HB, Q_HO176, Q_BK178, Q_GW178, Q_GE178, Q_NB172_178, Q_NB178_172, Q_HO181, Q_HO184, Q_BK178_e5, Q_X0_, Q_X5_, Q_X6_⟩ hb_ hon hoff
       refine ⟨_, rfl, fun K hK => ?_⟩
       have e7 : a.tmps[7]? = some (m0_) := by rw [ha]; exact putSel_on (e := (0, 7, m0_)) 0 rfl rfl (hon 0 (by kernel_rfl)) rfl
       rw [Q_X0_ (hon 0 (by kernel_rfl))] at e7
       have e11 : a.tmps[11]? = some (v180) := by rw [ha]; exact putSel_on (e := (4, 11, v180)) 3 rfl rfl (hon 4 (by kernel_rfl)) rfl
       replace ha := Aside0.mk ha
       have BK172 := Aside0.mk Q_BK172
       have HB := Aside0.mk Q_HB
       have HO176 := Aside0.mk (Q_HO176 (hon 0 (by kernel_rfl)) hb_)
       have BK178 := Aside0.mk (Q_BK178 (hon 0 (by kernel_rfl)) hb_)
       have GW178 := Aside0.mk (Q_GW178 (hon 0 (by kernel_rfl)))
       have GE178 := Aside0.mk (Q_GE178 (hon 0 (by kernel_rfl)))
       have NB172_178 := Aside0.mk (Q_NB172_178 (hon 0 (by kernel_rfl)))
       have NB178_172 := Aside0.mk (Q_NB178_172 (hon 0 (by kernel_rfl)))
       have HO181 := Aside0.mk (Q_HO181 (hon 4 (by kernel_rfl)))
       obtain ⟨Ao82, co82, eo82⟩ := Kd.R_slice HO181.out
       (first | subst eo82 | (injection eo82 with f1_ f2_ f3_; have f4_ := f1_.symm; have f5_ := f3_.symm; clear f1_ f2_ f3_; subst f4_; subst f5_))
       refine goes_ Try.func30 (by kernel_rfl) rfl #[.pointer (some ⟨gb178, 0, none⟩), .slice Ao82 y179.length co82] (by rfl) rfl rfl (by first | (simp only [List.map_toArray, List.map_cons, List.map_nil, Act.eval, Array.getD_eq_getD_getElem?, Option.getD_some, e7, e11]; done) | (simp only [List.map_toArray, List.map_cons, List.map_nil, Act.eval, Array.getD_eq_getD_getElem?, Option.getD_some, e7, e11]; rfl)) ?_
       with_reducible refine (pack_Box_Put.calls k gb178 (fun k_ => some k_ = (v175 : Value).ownBlock) v175 t174 t177 _ _ y179 t182 t185 w _ ?side1 ?side2 ?side3 ?side4 ?side5 ?side6 A5.out).mono ?_
       (case side1 => repeat (first | (with_reducible first | exact HB.out | apply kL | apply kM | apply kE | refine kS ?_ GE172.out | refine kS ?_ GE178.out) | exact HB.out))
       (case side2 => exact (by (with_reducible repeat (first | refine kN ?_ _ | refine kD ?_ | refine kA ?_ _)); exact BK178.out))
       (case side3 => exact GE178.out)
       (case side4 => exact Kd.R_tight rfl HO176.out)
       (case side5 => exact Kd.C_kept_own ((Kd.R_types (Kd.R_apart' HO181.out (Kd.R_typed HO176.out) (by decide)) BK178.out (by decide))) (fun k_ hk_ hs_ => Or.elim hs_ (fun hs_ => (hk_.1.2) hs_) (fun e_ => (hk_.2) e_)))
       (case side6 => exact (Kd.R_reads' HO181.out).2.1)
       rintro e w83 ⟨v183, rfl, ho0, hi, hb, hkp⟩
       refine ⟨_, rfl, ?_⟩
       have n0_ := Aside0.mk (blk_kept (by (with_reducible repeat (first | refine kN ?_ _ | refine kD ?_ | refine kA ?_ _)); exact BK172.out) hkp (fun hs_ => Or.elim hs_ (fun hs_ => (fun e_ => (Kd.R_ne HO176.out BK172.out (by decide)) e_) hs_) (fun e_ => NB172_178.out e_)))
       have n1_ := Aside0.mk (hi)
       have n2_ := Aside0.mk (Kd.R_mono (ok' := fun k_ => True) (Kd.R_keptB ((Kd.R_types (Kd.R_apart' HO181.out (Kd.R_typed HO176.out) (by decide)) BK178.out (by decide))) hkp (fun k_ hk_ hs_ => Or.elim hs_ (fun hs_ => (hk_.1.2) hs_) (fun e_ => (hk_.2) e_))) (fun k_ hk_ => trivial))
       have n3_ := Aside0.mk (Kd.R_mono (ok' := fun k_ => True) ho0 (fun k_ hk_ => trivial))
       have n4_ := Aside0.mk (hb)
       clear BK172
       clear BK178
       clear HO181
       clear HB
       clear HO176
       have BK172 := n0_
       have BK178 := n1_
       have HO181 := n2_
       have HO184 := n3_
       have HB := n4_
       clear n0_ n1_ n2_ n3_ n4_
       (try clear hb)
       (try clear hkp)
       (try clear hi)
       (try clear ho0)
       refine hK.out _ _ ⟨v175, gb178, .slice Ao82 y179.length co82, v183, m0_, (.pointer (some ⟨gb178, 0, none⟩)), m6_, (by rw [ha.out]; exact putSel_upk 4 hb_ rfl rfl rfl), (by (with_reducible repeat (first | refine kN ?_ _ | refine kD ?_ | refine kA ?_ _)); exact BK172.out), (by repeat (first | (with_reducible first | exact HB.out | apply kL | apply kM | apply kE | refine kS ?_ GE172.out | refine kS ?_ GE178.out) | exact HB.out)), fun _ h1_ => absurd ((up_self b 5).symm.trans h1_) (by decide), fun _ h1_ => absurd ((up_self b 5).symm.trans h1_) (by decide), fun _ => GW178.out, fun _ => GE178.out, fun _ => NB172_178.out, fun _ => NB178_172.out, fun _ => (by (with_reducible repeat (first | apply Kd.R_alloc | apply Kd.R_drewN | apply Kd.R_drew)); exact HO181.out), fun _ => (by (with_reducible repeat (first | apply Kd.R_alloc | apply Kd.R_drewN | apply Kd.R_drew)); exact HO184.out), fun _ => (by (with_reducible repeat (first | refine kN ?_ _ | refine kD ?_ | refine kA ?_ _)); exact BK178.out), Q_X0_, fun _ => rfl, fun h0_ => absurd ((hoff 6 (by kernel_rfl)).symm.trans h0_) (by decide)⟩
      refine steps_cons ?_ ?_
      ·rintro b a w' ⟨v175, gb178, v180, v183, m0_, m5_, m6_, ha, Q_BK172, Q_HB, Q_HO176, Q_BK178, Q_GW178, Q_GE178, Q_NB172_178, Q_NB178_172, Q_HO181, Q_HO184, Q_BK178_e5, Q_X0_, Q_X5_, Q_X6_⟩ hb_ hon hoff
       refine ⟨_, rfl, fun K hK => ?_⟩
       have e12 : a.tmps[12]? = some (m5_) := by rw [ha]; exact putSel_on (e := (5, 12, m5_)) 4 rfl rfl (hon 5 (by kernel_rfl)) rfl
       rw [Q_X5_ (hon 5 (by kernel_rfl))] at e12
       replace ha := Aside0.mk ha
       have BK172 := Aside0.mk Q_BK172
       have HB := Aside0.mk Q_HB
       have GW178 := Aside0.mk (Q_GW178 (hon 0 (by kernel_rfl)))
       have GE178 := Aside0.mk (Q_GE178 (hon 0 (by kernel_rfl)))
       have NB172_178 := Aside0.mk (Q_NB172_178 (hon 0 (by kernel_rfl)))
       have NB178_172 := Aside0.mk (Q_NB178_172 (hon 0 (by kernel_rfl)))
       have HO181 := Aside0.mk (Q_HO181 (hon 4 (by kernel_rfl)))
       have HO184 := Aside0.mk (Q_HO184 (hon 5 (by kernel_rfl)))
       have BK178 := Aside0.mk (Q_BK178_e5 (hon 5 (by kernel_rfl)))
       refine value_ (w1 := w') (v := .pointer (some ⟨gb178, 0, none⟩)) (by rfl) rfl ?_ ?_
       ·go_simp
        (try simp only [i64_w])
        try rfl
       refine hK.out _ _ ⟨v175, gb178, v180, v183, m0_, m5_, (.pointer (some ⟨gb178, 0, none⟩)), (by rw [ha.out]; exact putSel_upk 5 hb_ rfl rfl rfl), Q_BK172, Q_HB, fun _ h1_ => absurd ((hon 5 (by kernel_rfl)).symm.trans h1_) (by decide), fun _ h1_ => absurd ((hon 5 (by kernel_rfl)).symm.trans h1_) (by decide), Q_GW178, Q_GE178, Q_NB172_178, Q_NB178_172, Q_HO181, Q_HO184, Q_BK178_e5, Q_X0_, Q_X5_, fun _ => rfl⟩
      exact steps_nil
     rintro b a w83 hall ⟨v175, gb178, v180, v183, m0_, m5_, m6_, ha, Q_BK172, Q_HB, Q_HO176, Q_BK178, Q_GW178, Q_GE178, Q_NB172_178, Q_NB178_172, Q_HO181, Q_HO184, Q_BK178_e5, Q_X0_, Q_X5_, Q_X6_⟩
     clear BK172 HB
     have hb0_ := hall 0 (by kernel_rfl)
     have hb2_ := hall 2 (by kernel_rfl)
     have hb3_ := hall 3 (by kernel_rfl)
     have hb4_ := hall 4 (by kernel_rfl)
     have hb5_ := hall 5 (by kernel_rfl)
     have hb6_ := hall 6 (by kernel_rfl)
     subst ha
     obtain rfl := Q_X0_ hb0_
     obtain rfl := Q_X5_ hb5_
     obtain rfl := Q_X6_ hb6_
     simp only [putSel, hb0_, hb2_, hb3_, hb4_, hb5_, hb6_, if_true, Act.put, List.setIfInBounds_toArray, List.set_cons_zero, List.set_cons_succ]
     have BK172 := Aside0.mk Q_BK172
     clear Q_BK172
     have HB := Aside0.mk Q_HB
     clear Q_HB
     clear Q_HO176
     clear Q_BK178
     have GW178 := Aside0.mk (Q_GW178 hb0_)
     clear Q_GW178
     have GE178 := Aside0.mk (Q_GE178 hb0_)
     clear Q_GE178
     have NB172_178 := Aside0.mk (Q_NB172_178 hb0_)
     clear Q_NB172_178
     have NB178_172 := Aside0.mk (Q_NB178_172 hb0_)
     clear Q_NB178_172
     have HO181 := Aside0.mk (Q_HO181 hb4_)
     clear Q_HO181
     have HO184 := Aside0.mk (Q_HO184 hb5_)
     clear Q_HO184
     have BK178 := Aside0.mk (Q_BK178_e5 hb5_)
     clear Q_BK178_e5
     clear hall hb0_ hb2_ hb3_ hb4_ hb5_ hb6_
     have hnb84 := NB172_178.out
     have hnc84 := NB178_172.out
     obtain ⟨hcz85_0, hcz85_1, hcz85_2, hcz85_3, hcz85_4, hcz85_5, hcz85_6, hcz85_7, hcz85_8, hcz85_9, hcz85_10, hcz85_11, hcz85_12, hcz85_13, hcz85_14, hcz85_15, hfz85_0, hfz85_1, hfz85_2, hfz85_3, hfz85_4, hfz85_5, hfz85_6, hfz85_7, hfz85_8, hfz85_9, hfz85_10, hfz85_11, hfz85_12, hfz85_13, hfz85_14, hfz85_15⟩ := bxc16 BK172.out
     try go_wp2_with (first | ((with_reducible refine gate_callee (f := 26) rfl ?_); refine goesL_ (some 20) rfl rfl Try.func26 (by kernel_rfl) rfl #[.int .u8 a0_0] rfl (by (try simp only [List.map_toArray, List.map_cons, List.map_nil]); first | done | rfl | (simp only [List.length_drop, List.length_take]; rfl)) ?_; (with_reducible refine (order_subs.calls a0_0 false _ A6.out).mono ?_); rintro e w' ⟨rfl, ⟨nd, rfl⟩⟩; refine ⟨_, rfl, ?_⟩) | ((with_reducible refine gate_dst (N := 49) rfl ?_); refine Kd.R_lit (Kd.int .i64) _ 2 ?hg (N := 49) ?hd (xs := ([a0_3] : List Int)) (inner := [.int .i64 a0_3]) (ok := fun _ => True) (okp := fun _ => True) ?hr ?hp (fun _ hk => hk) trivial (Below.refl _ _) (Nat.le_refl _) (by simp) ?_; (case hd => rfl); (case hg => rfl); (case hr => first | (go_simp; done) | (go_simp; rfl)); (case hp => exact (Reps.one (show Kd.M (Kd.int .i64) _ _ _ a0_3 [.int .i64 a0_3] from rfl) (Reps.none _ _))); intro v228 w86 ho87 hb hg_ hnew_; clear hg_ hnew_; (first | rw [← Ny227.out] at ho87 | (simp only [Int.reduceToNat] at ho87; rw [← Ny227.out] at ho87)); have n0_ := Aside0.mk (Kd.R_elder' (by (with_reducible repeat (first | apply Kd.R_alloc | apply Kd.R_drewN | apply Kd.R_drew)); exact HO181.out) (Kd.R_base ho87) hb); have n1_ := Aside0.mk (Kd.R_below (by (with_reducible repeat (first | apply Kd.R_alloc | apply Kd.R_drewN | apply Kd.R_drew)); exact HO184.out) hb); have n2_ := Aside0.mk (Kd.R_lower (Kd.R_new' ho87 (Kd.R_lt (by (with_reducible repeat (first | apply Kd.R_alloc | apply Kd.R_drewN | apply Kd.R_drew)); exact HO181.out))) (below_size (by repeat (first | (with_reducible first | exact HB.out | apply kL | apply kM | apply kE | refine kS ?_ GE172.out | refine kS ?_ GE178.out) | exact HB.out)))); have n3_ := Aside0.mk (blk_below (g := gb172) (o := .cells #[.int .u8 a0_0, .int .i64 a0_1, .int .i64 a0_2, .int .i64 a0_3, .int .i64 a0_4, .int .u8 a0_5, .int .i64 a0_6, .int .i64 a0_7, .bool a0_8, .bool a0_9, .int .u8 a0_10, .int .i64 a0_11, .int .i64 a0_12, .int .i64 a0_13, .int .i64 a0_14, .int .u8 a0_15] 27 (0, 0)) (by (with_reducible repeat (first | refine kN ?_ _ | refine kD ?_ | refine kA ?_ _)); exact BK172.out) hb); have n4_ := Aside0.mk (blk_below (g := gb178) (o := .cells #[v183, .int .i64 t185] 60 (0, 0)) (by (with_reducible repeat (first | refine kN ?_ _ | refine kD ?_ | refine kA ?_ _)); exact BK178.out) hb); have n5_ := Aside0.mk (below_step (by repeat (first | (with_reducible first | exact HB.out | apply kL | apply kM | apply kE | refine kS ?_ GE172.out | refine kS ?_ GE178.out) | exact HB.out)) hb); clear HO181; clear HO184; clear BK172; clear BK178; clear HB; have HO181 := n0_; have HO184 := n1_; have HO229 := n2_; have BK172 := n3_; have BK178 := n4_; have HB := n5_; clear n0_ n1_ n2_ n3_ n4_ n5_; clear hb ho87; obtain ⟨Ao88, co88, eo88⟩ := Kd.R_slice HO229.out; subst eo88) | ((with_reducible refine gate_callee (f := 30) rfl ?_); refine goesL_ (some 50) rfl rfl Try.func30 (by kernel_rfl) rfl #[.pointer (some ⟨gb178, 0, none⟩), .slice Ao88 y227.length co88] rfl (by (try simp only [List.map_toArray, List.map_cons, List.map_nil]); first | done | rfl | (simp only [List.length_drop, List.length_take]; rfl)) ?_; (with_reducible refine (pack_Box_Put.calls k gb178 (fun k_ => some k_ = (v183 : Value).ownBlock) v183 t182 t185 _ _ y227 t230 t233 w _ ?side1 ?side2 ?side3 ?side4 ?side5 ?side6 A72.out).mono ?_); (case side1 => repeat (first | (with_reducible first | exact HB.out | apply kL | apply kM | apply kE | refine kS ?_ GE172.out | refine kS ?_ GE178.out) | exact HB.out)); (case side2 => exact (by (with_reducible repeat (first | refine kN ?_ _ | refine kD ?_ | refine kA ?_ _)); exact BK178.out)); (case side3 => exact GE178.out); (case side4 => exact Kd.R_tight rfl HO184.out); (case side5 => exact Kd.C_kept_own ((Kd.R_types (Kd.R_apart' HO229.out (Kd.R_typed HO184.out) (by decide)) BK178.out (by decide))) (fun k_ hk_ hs_ => Or.elim hs_ (fun hs_ => (hk_.1.2) hs_) (fun e_ => (hk_.2) e_))); (case side6 => exact (Kd.R_reads' HO229.out).2.1); rintro e w89 ⟨v231, rfl, ho0, hi, hb, hkp⟩; refine ⟨_, rfl, ?_⟩; have n0_ := Aside0.mk (blk_kept (by (with_reducible repeat (first | refine kN ?_ _ | refine kD ?_ | refine kA ?_ _)); exact BK172.out) hkp (fun hs_ => Or.elim hs_ (fun hs_ => (fun e_ => (Kd.R_ne HO184.out BK172.out (by decide)) e_) hs_) (fun e_ => NB172_178.out e_))); have n1_ := Aside0.mk (hi); have n2_ := Aside0.mk (Kd.R_mono (ok' := fun k_ => some k_ ≠ (.slice Ao88 y227.length co88 : Value).ownBlock) (Kd.R_keptB ((Kd.R_types (Kd.R_apart' HO181.out (Kd.R_typed HO184.out) (by decide)) BK178.out (by decide))) hkp (fun k_ hk_ hs_ => Or.elim hs_ (fun hs_ => (hk_.1.2) hs_) (fun e_ => (hk_.2) e_))) (fun k_ hk_ => hk_.1.1.1.2)); have n3_ := Aside0.mk (Kd.R_mono (ok' := fun k_ => some k_ ≠ (v180 : Value).ownBlock) (Kd.R_keptB ((Kd.R_types (Kd.R_apart' HO229.out (Kd.R_typed HO184.out) (by decide)) BK178.out (by decide))) hkp (fun k_ hk_ hs_ => Or.elim hs_ (fun hs_ => (hk_.1.2) hs_) (fun e_ => (hk_.2) e_))) (fun k_ hk_ => hk_.1.1.1.2)); have n4_ := Aside0.mk (Kd.R_mono (ok' := fun k_ => True) ho0 (fun k_ hk_ => trivial)); have n5_ := Aside0.mk (hb); clear BK172; clear BK178; clear HO181; clear HO229; clear HB; clear HO184; have BK172 := n0_; have BK178 := n1_; have HO181 := n2_; have HO229 := n3_; have HO232 := n4_; have HB := n5_; clear n0_ n1_ n2_ n3_ n4_ n5_; (try clear hb); (try clear hkp); (try clear hi); (try clear ho0)) | ((with_reducible refine gate_callee (f := 20) rfl ?_); refine goesL_ (some 52) rfl rfl Try.func20 (by kernel_rfl) rfl #[.pointer (some ⟨gb178, 0, none⟩)] rfl (by (try simp only [List.map_toArray, List.map_cons, List.map_nil]); first | done | rfl | (simp only [List.length_drop, List.length_take]; rfl)) ?_; (with_reducible refine (pack_Box_Done.calls gb178 (fun k_ => some k_ = (v231 : Value).ownBlock) v231 t230 t233 t234 t237 t240 w _ ?side1 ?side2 ?side3 ?side4 A73.out).mono ?_); (case side1 => repeat (first | (with_reducible first | exact HB.out | apply kL | apply kM | apply kE | refine kS ?_ GE172.out | refine kS ?_ GE178.out) | exact HB.out)); (case side2 => exact (by (with_reducible repeat (first | refine kN ?_ _ | refine kD ?_ | refine kA ?_ _)); exact BK178.out)); (case side3 => exact GE178.out); (case side4 => exact Kd.R_tight rfl HO232.out); rintro e w90 ⟨v235, v238, rfl, ho0, ho1, hi, hb, hkp⟩; refine ⟨_, rfl, ?_⟩; have n0_ := Aside0.mk (blk_kept (by (with_reducible repeat (first | refine kN ?_ _ | refine kD ?_ | refine kA ?_ _)); exact BK172.out) hkp (fun hs_ => Or.elim hs_ (fun hs_ => (fun e_ => (Kd.R_ne HO232.out BK172.out (by decide)) e_) hs_) (fun e_ => NB172_178.out e_))); have n1_ := Aside0.mk (hi); have n2_ := Aside0.mk (Kd.R_mono (ok' := fun k_ => some k_ ≠ (.slice Ao88 y227.length co88 : Value).ownBlock) (Kd.R_keptB ((Kd.R_types (Kd.R_apart' HO181.out (Kd.R_typed HO232.out) (by decide)) BK178.out (by decide))) hkp (fun k_ hk_ hs_ => Or.elim hs_ (fun hs_ => (hk_.1.2) hs_) (fun e_ => (hk_.2) e_))) (fun k_ hk_ => hk_.1.1.1)); have n3_ := Aside0.mk (Kd.R_mono (ok' := fun k_ => some k_ ≠ (v180 : Value).ownBlock) (Kd.R_keptB ((Kd.R_types (Kd.R_apart' HO229.out (Kd.R_typed HO232.out) (by decide)) BK178.out (by decide))) hkp (fun k_ hk_ hs_ => Or.elim hs_ (fun hs_ => (hk_.1.2) hs_) (fun e_ => (hk_.2) e_))) (fun k_ hk_ => hk_.1.1.1)); have n4_ := Aside0.mk (Kd.R_mono (ok' := fun k_ => some k_ ≠ (v238 : Value).ownBlock) ho0 (fun k_ hk_ => hk_.2)); have n5_ := Aside0.mk (Kd.R_mono (ok' := fun k_ => some k_ ≠ (v235 : Value).ownBlock) ho1 (fun k_ hk_ => hk_.2)); have n6_ := Aside0.mk (hb); clear BK172; clear BK178; clear HO181; clear HO229; clear HB; clear HO232; have BK172 := n0_; have BK178 := n1_; have HO181 := n2_; have HO229 := n3_; have HO236 := n4_; have HO239 := n5_; have HB := n6_; clear n0_ n1_ n2_ n3_ n4_ n5_ n6_; (try clear hb); (try clear hkp); (try clear hi); (try clear ho0); (try clear ho1)))
     go_ret
     exact ⟨_, by first | rfl | (simp [errW_none, errW_some] <;> rfl) | (simp [*, errW_none, errW_some] <;> rfl), by (with_reducible repeat (first | apply Kd.R_alloc | apply Kd.R_drewN | apply Kd.R_drew)); exact Kd.R_mono HO236.out (fun _ hk => trivial), by repeat (first | (with_reducible first | exact HB.out | apply kL | apply kM | apply kE | refine kS ?_ GE172.out | refine kS ?_ GE178.out) | exact HB.out)⟩
    ·rw [if_neg c71] at H
     have c71b0 : (a0_0 == 9) = false := beq_eq_false_iff_ne.mpr c71
     have c71b1 : (a0_0 != 9) = true := bne_iff_ne.mpr c71
     replace H := Option.bind_eq_some_iff.mp H
     obtain ⟨⟨t241, t244⟩, A910, H⟩ := H
     replace H : ((pack_Box_Done.f t241 t244).bind fun bt245 => (some bt245.1)) = some r := H
     have A91 := Aside0.mk A910
     clear A910
     replace H := Option.bind_eq_some_iff.mp H
     obtain ⟨⟨t245, t248, t251⟩, A920, H⟩ := H
     replace H : (some t245) = some r := H
     have A92 := Aside0.mk A920
     clear A920
     obtain rfl := Option.some.inj H
     go_enter Try.func15, Try.ntmps15
     try go_wp2_with (first | ((with_reducible refine gate_dst (N := 1) rfl ?_); refine box_event ?hg (N := 1) ?hd (cs := #[.int .u8 a0_0, .int .i64 a0_1, .int .i64 a0_2, .int .i64 a0_3, .int .i64 a0_4, .int .u8 a0_5, .int .i64 a0_6, .int .i64 a0_7, .bool a0_8, .bool a0_9, .int .u8 a0_10, .int .i64 a0_11, .int .i64 a0_12, .int .i64 a0_13, .int .i64 a0_14, .int .u8 a0_15]) (t := 27) ?hr ?_; (case hd => rfl); (case hg => rfl); (case hr => first | (go_simp; done) | (go_simp; rfl)); intro gb172 hg w93 hbox hb; have n0_ := Aside0.mk (below_step (by repeat (first | (with_reducible first | exact HB.out | apply kL | apply kM | apply kE) | exact HB.out)) hb); have n1_ := Aside0.mk (hbox); have n2_ := Aside0.mk ((by rw [hg]; exact (below_size (by repeat (first | (with_reducible first | exact HB.out | apply kL | apply kM | apply kE) | exact HB.out))) : w.heap.size ≤ gb172)); have n3_ := Aside0.mk ((by rw [hg]; exact (below_size (by repeat (first | (with_reducible first | exact HB.out | apply kL | apply kM | apply kE) | exact HB.out))) : w.heap.size ≤ gb172)); clear HB; have HB := n0_; have BK172 := n1_; have GW172 := n2_; have GE172 := n3_; clear n0_ n1_ n2_ n3_; clear hb hbox hg; obtain ⟨hcz94_0, hcz94_1, hcz94_2, hcz94_3, hcz94_4, hcz94_5, hcz94_6, hcz94_7, hcz94_8, hcz94_9, hcz94_10, hcz94_11, hcz94_12, hcz94_13, hcz94_14, hcz94_15, hfz94_0, hfz94_1, hfz94_2, hfz94_3, hfz94_4, hfz94_5, hfz94_6, hfz94_7, hfz94_8, hfz94_9, hfz94_10, hfz94_11, hfz94_12, hfz94_13, hfz94_14, hfz94_15⟩ := bxc16 BK172.out) | ((with_reducible refine gate_dst (N := 4) rfl ?_); refine wpList_load_row rfl 27 (.tmp 1) rfl gb172 rfl 27 #[.int .u8 a0_0, .int .i64 a0_1, .int .i64 a0_2, .int .i64 a0_3, .int .i64 a0_4, .int .u8 a0_5, .int .i64 a0_6, .int .i64 a0_7, .bool a0_8, .bool a0_9, .int .u8 a0_10, .int .i64 a0_11, .int .i64 a0_12, .int .i64 a0_13, .int .i64 a0_14, .int .u8 a0_15] (0, 0) _ (by (with_reducible repeat (first | refine kN ?_ _ | refine kD ?_ | refine kA ?_ _)); exact BK172.out) Try.underlying27 rfl (by kernel_rfl) ?_) | ((with_reducible refine gate_callee (f := 11) rfl ?_); refine goesL_ (some 5) rfl rfl Try.func11 (by kernel_rfl) rfl #[.agg #[.int .u8 a0_0, .int .i64 a0_1, .int .i64 a0_2, .int .i64 a0_3, .int .i64 a0_4, .int .u8 a0_5, .int .i64 a0_6, .int .i64 a0_7, .bool a0_8, .bool a0_9, .int .u8 a0_10, .int .i64 a0_11, .int .i64 a0_12, .int .i64 a0_13, .int .i64 a0_14, .int .u8 a0_15]] rfl (by (try simp only [List.map_toArray, List.map_cons, List.map_nil]); first | done | rfl | (simp only [List.length_drop, List.length_take]; rfl)) ?_; (with_reducible refine (order_Right.calls k a0_0 a0_1 a0_2 a0_3 a0_4 a0_5 a0_6 a0_7 a0_8 a0_9 a0_10 a0_11 a0_12 a0_13 a0_14 a0_15 t173 _ A2.out).mono ?_); rintro e w95 ⟨rfl, hb⟩; refine ⟨_, rfl, ?_⟩; have n0_ := Aside0.mk (blk_below (g := gb172) (o := .cells #[.int .u8 a0_0, .int .i64 a0_1, .int .i64 a0_2, .int .i64 a0_3, .int .i64 a0_4, .int .u8 a0_5, .int .i64 a0_6, .int .i64 a0_7, .bool a0_8, .bool a0_9, .int .u8 a0_10, .int .i64 a0_11, .int .i64 a0_12, .int .i64 a0_13, .int .i64 a0_14, .int .u8 a0_15] 27 (0, 0)) (by (with_reducible repeat (first | refine kN ?_ _ | refine kD ?_ | refine kA ?_ _)); exact BK172.out) hb); have n1_ := Aside0.mk (below_step (by repeat (first | (with_reducible first | exact HB.out | apply kL | apply kM | apply kE | refine kS ?_ GE172.out) | exact HB.out)) hb); clear BK172; clear HB; have BK172 := n0_; have HB := n1_; clear n0_ n1_; (try clear hb); (try clear hb2); (try clear hk); (try clear hi)))
     have n0_ := Aside0.mk (kD BK172.out)
     have n1_ := Aside0.mk (kE HB.out)
     clear BK172
     clear HB
     have BK172 := n0_
     have HB := n1_
     clear n0_ n1_
     refine start_ (n := 7) (S := fun w' => True) (ds := []) #[false, false, false, false, false, false, false] (by kernel_rfl) rfl rfl trivial (fun hHeld => ?_); refine with_tabW order_Encode.tab3 order_Encode.bits3 (fun HT_ HW_ => ?_)
     generalize w95.drew = w96 at BK172 HB hHeld ⊢
     refine pure_ (i := 1) (N := some 8) (v := ?_) (a' := ?_) #[false, true, false, false, false, false, false] rfl rfl (any_of HT_.out (by kernel_rfl)) (fun _ _ _ h => h) (Or.inl ⟨by rfl, ?_⟩) ?_ ?_
     rotate_left
     ·intro w'
      go_simp
      with_reducible rfl
     rotate_left
     ·simp only [Act.put, List.setIfInBounds_toArray, List.set_cons_zero, List.set_cons_succ, i64_w, i32_w]
      rfl
     refine inv_at [0, 2, 3, 4, 5, 6] (fun a0_ b a w' => ∃ (v175 : Value) (gb178 : Nat) (v180 : Value) (v183 : Value) (m0_ : Value) (m5_ : Value) (m6_ : Value), a = putSel a0_ b [(0, 7, m0_), (2, 9, .int .u8 a0_0), (3, 10, .int .i64 (wrap64 (a0_0))), (4, 11, v180), (5, 12, m5_), (6, 3, m6_)] ∧ (w'.heap[gb172]? = some (.cells #[.int .u8 a0_0, .int .i64 a0_1, .int .i64 a0_2, .int .i64 a0_3, .int .i64 a0_4, .int .u8 a0_5, .int .i64 a0_6, .int .i64 a0_7, .bool a0_8, .bool a0_9, .int .u8 a0_10, .int .i64 a0_11, .int .i64 a0_12, .int .i64 a0_13, .int .i64 a0_14, .int .u8 a0_15] 27 (0, 0))) ∧ (Below w.heap.size w w') ∧ (b 0 = true → b 5 = false → Kd.R (Kd.int .u8) 5 w' w.heap.size (fun _ => True) v175 t174) ∧ (b 0 = true → b 5 = false → w'.heap[gb178]? = some (.cells #[v175, .int .i64 t177] 60 (0, 0))) ∧ (b 0 = true → w.heap.size ≤ gb178) ∧ (b 0 = true → w.heap.size ≤ gb178) ∧ (b 0 = true → gb172 ≠ gb178) ∧ (b 0 = true → gb178 ≠ gb172) ∧ (b 4 = true → Kd.R (Kd.int .i64) 2 w' w.heap.size (fun _ => True) v180 y179) ∧ (b 5 = true → Kd.R (Kd.int .u8) 5 w' w.heap.size (fun _ => True) v183 t182) ∧ (b 5 = true → w'.heap[gb178]? = some (.cells #[v183, .int .i64 t185] 60 (0, 0))) ∧ (b 0 = true → (m0_ : Value) = .pointer (some ⟨gb178, 0, none⟩)) ∧ (b 5 = true → (m5_ : Value) = .pointer (some ⟨gb178, 0, none⟩)) ∧ (b 6 = true → (m6_ : Value) = .pointer (some ⟨gb178, 0, none⟩))) HT_.out HW_.out (by kernel_rfl) (by kernel_rfl) ?_ ?_ ?_
     ·exact ⟨.bool false, 0, .bool false, .bool false, .bool false, .bool false, .bool false, by simp only [putSel, Bool.false_eq_true, if_false], BK172.out, HB.out, fun h_ => absurd h_ (by decide), fun h_ => absurd h_ (by decide), fun h_ => absurd h_ (by decide), fun h_ => absurd h_ (by decide), fun h_ => absurd h_ (by decide), fun h_ => absurd h_ (by decide), fun h_ => absurd h_ (by decide), fun h_ => absurd h_ (by decide), fun h_ => absurd h_ (by decide), fun h_ => absurd h_ (by decide), fun h_ => absurd h_ (by decide), fun h_ => absurd h_ (by decide)⟩
     ·skip
      clear BK172 HB
      refine steps_cons ?_ ?_
      ·rintro b a w' ⟨v175, gb178, v180, v183, m0_, m5_, m6_, ha, Q_BK172, Q_HB, Q_HO176, Q_BK178, Q_GW178, Q_GE178, Q_NB172_178, Q_NB178_172, Q_HO181, Q_HO184, Q_BK178_e5, Q_X0_, Q_X5_, Q_X6_⟩ hb_ hon hoff
       refine ⟨_, rfl, fun K hK => ?_⟩
       replace ha := Aside0.mk ha
       have BK172 := Aside0.mk Q_BK172
       have HB := Aside0.mk Q_HB
       refine goes_ Try.func17 (by kernel_rfl) rfl #[] (by rfl) rfl rfl (by first | (simp only [List.map_toArray, List.map_cons, List.map_nil, Act.eval, Array.getD_eq_getD_getElem?, Option.getD_some]; done) | (simp only [List.map_toArray, List.map_cons, List.map_nil, Act.eval, Array.getD_eq_getD_getElem?, Option.getD_some]; rfl)) ?_
       with_reducible refine (pack_New.calls  t174 t177 _ A4.out).mono ?_
       rintro e w97 ⟨v175, gb178, rfl, ho0, hnb178, hnl178, hb⟩
       refine ⟨_, rfl, ?_⟩
       have n0_ := Aside0.mk (Kd.R_lower ho0 (below_size (by repeat (first | (with_reducible first | exact HB.out | apply kL | apply kM | apply kE | refine kS ?_ GE172.out) | exact HB.out))))
       have n1_ := Aside0.mk (blk_below (g := gb172) (o := .cells #[.int .u8 a0_0, .int .i64 a0_1, .int .i64 a0_2, .int .i64 a0_3, .int .i64 a0_4, .int .u8 a0_5, .int .i64 a0_6, .int .i64 a0_7, .bool a0_8, .bool a0_9, .int .u8 a0_10, .int .i64 a0_11, .int .i64 a0_12, .int .i64 a0_13, .int .i64 a0_14, .int .u8 a0_15] 27 (0, 0)) (by (with_reducible repeat (first | refine kN ?_ _ | refine kD ?_ | refine kA ?_ _)); exact BK172.out) hb)
       have n2_ := Aside0.mk (hnb178)
       have n3_ := Aside0.mk ((Nat.le_trans (below_size (by repeat (first | (with_reducible first | exact HB.out | apply kL | apply kM | apply kE | refine kS ?_ GE172.out) | exact HB.out))) hnl178 : w.heap.size ≤ gb178))
       have n4_ := Aside0.mk ((Nat.le_trans (below_size (by repeat (first | (with_reducible first | exact HB.out | apply kL | apply kM | apply kE | refine kS ?_ GE172.out) | exact HB.out))) hnl178 : w.heap.size ≤ gb178))
       have n5_ := Aside0.mk ((Nat.ne_of_lt (Nat.lt_of_lt_of_le (blk_lt (g := gb172) (o := .cells #[.int .u8 a0_0, .int .i64 a0_1, .int .i64 a0_2, .int .i64 a0_3, .int .i64 a0_4, .int .u8 a0_5, .int .i64 a0_6, .int .i64 a0_7, .bool a0_8, .bool a0_9, .int .u8 a0_10, .int .i64 a0_11, .int .i64 a0_12, .int .i64 a0_13, .int .i64 a0_14, .int .u8 a0_15] 27 (0, 0)) (by (with_reducible repeat (first | refine kN ?_ _ | refine kD ?_ | refine kA ?_ _)); exact BK172.out)) hnl178) : gb172 ≠ gb178))
       have n6_ := Aside0.mk ((Nat.ne_of_gt (Nat.lt_of_lt_of_le (blk_lt (g := gb172) (o := .cells #[.int .u8 a0_0, .int .i64 a0_1, .int .i64 a0_2, .int .i64 a0_3, .int .i64 a0_4, .int .u8 a0_5, .int .i64 a0_6, .int .i64 a0_7, .bool a0_8, .bool a0_9, .int .u8 a0_10, .int .i64 a0_11, .int .i64 a0_12, .int .i64 a0_13, .int .i64 a0_14, .int .u8 a0_15] 27 (0, 0)) (by (with_reducible repeat (first | refine kN ?_ _ | refine kD ?_ | refine kA ?_ _)); exact BK172.out)) hnl178) : gb178 ≠ gb172))
       have n7_ := Aside0.mk (below_step (by repeat (first | (with_reducible first | exact HB.out | apply kL | apply kM | apply kE | refine kS ?_ GE172.out) | exact HB.out)) hb)
       have z_HO181 := fun (h0_ : b 4 = true) => (show Kd.R (Kd.int .i64) 2 w97 w.heap.size (fun _ => True) v180 y179 from by first | exact (Kd.R_below (by (with_reducible repeat (first | apply Kd.R_alloc | apply Kd.R_drewN | apply Kd.R_drew)); exact (Q_HO181 h0_)) hb) | exact Kd.R_mono (Kd.R_below (by (with_reducible repeat (first | apply Kd.R_alloc | apply Kd.R_drewN | apply Kd.R_drew)); exact (Q_HO181 h0_)) hb) (fun _ h_ => by first | trivial | exact h_ | exact h_.1))
       clear BK172
       clear HB
       have HO176 := n0_
       have BK172 := n1_
       have BK178 := n2_
       have GW178 := n3_
       have GE178 := n4_
       have NB172_178 := n5_
       have NB178_172 := n6_
       have HB := n7_
       clear n0_ n1_ n2_ n3_ n4_ n5_ n6_ n7_
       (try clear hb)
       (try clear hb2)
       (try clear hk)
       (try clear hi)
       (try clear ho0)
       refine hK.out _ _ ⟨v175, gb178, v180, v183, (.pointer (some ⟨gb178, 0, none⟩)), m5_, m6_, (by rw [ha.out]; exact putSel_upk 0 hb_ rfl rfl rfl), (by (with_reducible repeat (first | refine kN ?_ _ | refine kD ?_ | refine kA ?_ _)); exact BK172.out), (by repeat (first | (with_reducible first | exact HB.out | apply kL | apply kM | apply kE | refine kS ?_ GE172.out | refine kS ?_ GE178.out) | exact HB.out)), fun _ _ => (by (with_reducible repeat (first | apply Kd.R_alloc | apply Kd.R_drewN | apply Kd.R_drew)); exact HO176.out), fun _ _ => (by (with_reducible repeat (first | refine kN ?_ _ | refine kD ?_ | refine kA ?_ _)); exact BK178.out), fun _ => GW178.out, fun _ => GE178.out, fun _ => NB172_178.out, fun _ => NB178_172.out, z_HO181, fun h0_ => absurd ((hoff 5 (by kernel_rfl)).symm.trans h0_) (by decide), fun h0_ => absurd ((hoff 5 (by kernel_rfl)).symm.trans h0_) (by decide), fun _ => rfl, fun h0_ => absurd ((hoff 5 (by kernel_rfl)).symm.trans h0_) (by decide), fun h0_ => absurd ((hoff 6 (by kernel_rfl)).symm.trans h0_) (by decide)⟩
      refine steps_cons ?_ ?_
      ·rintro b a w' ⟨v175, gb178, v180, v183, m0_, m5_, m6_, ha, Q_BK172, Q_HB, Q_HO176, Q_BK178, Q_GW178, Q_GE178, Q_NB172_178, Q_NB178_172, Q_HO181, Q_HO184, Q_BK178_e5, Q_X0_, Q_X5_, Q_X6_⟩ hb_ hon hoff
       refine ⟨_, rfl, fun K hK => ?_⟩
       have e8 : a.tmps[8]? = some (.pointer (some ⟨gb172, 0, none⟩)) := by rw [ha]; exact (putSel_off rfl).trans rfl
       replace ha := Aside0.mk ha
       have BK172 := Aside0.mk Q_BK172
       have HB := Aside0.mk Q_HB
       have hc0_ : w'.cell? ⟨gb172, 0, none⟩ = some (.int .u8 a0_0) := (kC BK172.out 0).trans rfl
       have hc1_ : w'.cell? ⟨gb172, 1, none⟩ = some (.int .i64 a0_1) := (kC BK172.out 1).trans rfl
       have hc2_ : w'.cell? ⟨gb172, 2, none⟩ = some (.int .i64 a0_2) := (kC BK172.out 2).trans rfl
       have hc3_ : w'.cell? ⟨gb172, 3, none⟩ = some (.int .i64 a0_3) := (kC BK172.out 3).trans rfl
       have hc4_ : w'.cell? ⟨gb172, 4, none⟩ = some (.int .i64 a0_4) := (kC BK172.out 4).trans rfl
       have hc5_ : w'.cell? ⟨gb172, 5, none⟩ = some (.int .u8 a0_5) := (kC BK172.out 5).trans rfl
       have hc6_ : w'.cell? ⟨gb172, 6, none⟩ = some (.int .i64 a0_6) := (kC BK172.out 6).trans rfl
       have hc7_ : w'.cell? ⟨gb172, 7, none⟩ = some (.int .i64 a0_7) := (kC BK172.out 7).trans rfl
       have hc8_ : w'.cell? ⟨gb172, 8, none⟩ = some (.bool a0_8) := (kC BK172.out 8).trans rfl
       have hc9_ : w'.cell? ⟨gb172, 9, none⟩ = some (.bool a0_9) := (kC BK172.out 9).trans rfl
       have hc10_ : w'.cell? ⟨gb172, 10, none⟩ = some (.int .u8 a0_10) := (kC BK172.out 10).trans rfl
       have hc11_ : w'.cell? ⟨gb172, 11, none⟩ = some (.int .i64 a0_11) := (kC BK172.out 11).trans rfl
       have hc12_ : w'.cell? ⟨gb172, 12, none⟩ = some (.int .i64 a0_12) := (kC BK172.out 12).trans rfl
       have hc13_ : w'.cell? ⟨gb172, 13, none⟩ = some (.int .i64 a0_13) := (kC BK172.out 13).trans rfl
       have hc14_ : w'.cell? ⟨gb172, 14, none⟩ = some (.int .i64 a0_14) := (kC BK172.out 14).trans rfl
       have hc15_ : w'.cell? ⟨gb172, 15, none⟩ = some (.int .u8 a0_15) := (kC BK172.out 15).trans rfl
       refine value_ (w1 := w') (v := .int .u8 a0_0) (by rfl) rfl ?_ ?_
       ·go_simp
        (try simp only [i64_w])
        try rfl
       refine hK.out _ _ ⟨v175, gb178, v180, v183, m0_, m5_, m6_, (by rw [ha.out]; exact putSel_upk 1 hb_ rfl rfl rfl), Q_BK172, Q_HB, Q_HO176, Q_BK178, Q_GW178, Q_GE178, Q_NB172_178, Q_NB178_172, fun h0_ => absurd ((hoff 4 (by kernel_rfl)).symm.trans h0_) (by decide), fun h0_ => absurd ((hoff 5 (by kernel_rfl)).symm.trans h0_) (by decide), fun h0_ => absurd ((hoff 5 (by kernel_rfl)).symm.trans h0_) (by decide), Q_X0_, fun h0_ => absurd ((hoff 5 (by kernel_rfl)).symm.trans h0_) (by decide), fun h0_ => absurd ((hoff 6 (by kernel_rfl)).symm.trans h0_) (by decide)⟩
      refine steps_cons ?_ ?_
      ·rintro b a w' ⟨v175, gb178, v180, v183, m0_, m5_, m6_, ha, Q_BK172, Q_HB, Q_HO176, Q_BK178, Q_GW178, Q_GE178, Q_NB172_178, Q_NB178_172, Q_HO181, Q_HO184, Q_BK178_e5, Q_X0_, Q_X5_, Q_X6_⟩ hb_ hon hoff
       refine ⟨_, rfl, fun K hK => ?_⟩
       have e9 : a.tmps[9]? = some (.int .u8 a0_0) := by rw [ha]; exact putSel_on (e := (2, 9, .int .u8 a0_0)) 1 rfl rfl (hon 2 (by kernel_rfl)) rfl
       replace ha := Aside0.mk ha
       have BK172 := Aside0.mk Q_BK172
       have HB := Aside0.mk Q_HB
       refine value_ (w1 := w') (v := .int .i64 (wrap64 (a0_0))) (by rfl) rfl ?_ ?_
       ·go_simp
        (try simp only [i64_w])
        try rfl
       refine hK.out _ _ ⟨v175, gb178, v180, v183, m0_, m5_, m6_, (by rw [ha.out]; exact putSel_upk 2 hb_ rfl rfl rfl), Q_BK172, Q_HB, Q_HO176, Q_BK178, Q_GW178, Q_GE178, Q_NB172_178, Q_NB178_172, fun h0_ => absurd ((hoff 4 (by kernel_rfl)).symm.trans h0_) (by decide), fun h0_ => absurd ((hoff 5 (by kernel_rfl)).symm.trans h0_) (by decide), fun h0_ => absurd ((hoff 5 (by kernel_rfl)).symm.trans h0_) (by decide), Q_X0_, fun h0_ => absurd ((hoff 5 (by kernel_rfl)).symm.trans h0_) (by decide), fun h0_ => absurd ((hoff 6 (by kernel_rfl)).symm.trans h0_) (by decide)⟩
      refine steps_cons ?_ ?_
      ·rintro b a w' ⟨v175, gb178, v180, v183, m0_, m5_, m6_, ha, Q_BK172, Q_HB, Q_HO176, Q_BK178, Q_GW178, Q_GE178, Q_NB172_178, Q_NB178_172, Q_HO181, Q_HO184, Q_BK178_e5, Q_X0_, Q_X5_, Q_X6_⟩ hb_ hon hoff
       refine ⟨_, rfl, fun K hK => ?_⟩
       have e10 : a.tmps[10]? = some (.int .i64 (wrap64 (a0_0))) := by rw [ha]; exact putSel_on (e := (3, 10, .int .i64 (wrap64 (a0_0)))) 2 rfl rfl (hon 3 (by kernel_rfl)) rfl
       replace ha := Aside0.mk ha
       have BK172 := Aside0.mk Q_BK172
       have HB := Aside0.mk Q_HB
       refine Kd.R_lit_step (Kd.int .i64) _ 2 ?hg (N := 11) ?hd (xs := ([wrap64 (a0_0)] : List Int)) (inner := [.int .i64 (wrap64 (a0_0))]) (ok := fun _ => True) (okp := fun _ => True) ?hr ?hp (fun _ hk => hk) trivial (Below.refl _ _) (Nat.le_refl _) (by simp) ?_; (case hd => rfl); (case hg => rfl); (case hr => first | (go_simp; done) | (go_simp; rfl)); (case hp => exact (Reps.one (show Kd.M (Kd.int .i64) _ _ _ (wrap64 (a0_0)) [.int .i64 (wrap64 (a0_0))] from rfl) (Reps.none _ _)))
       intro v180 w97 ho98 hb hg_ hnew_
       clear hg_ hnew_
       (first | rw [← Ny179.out] at ho98 | (simp only [Int.reduceToNat] at ho98; rw [← Ny179.out] at ho98))
       have n0_ := Aside0.mk (Kd.R_lower ho98 (below_size (by repeat (first | (with_reducible first | exact HB.out | apply kL | apply kM | apply kE | refine kS ?_ GE172.out) | exact HB.out))))
       have n1_ := Aside0.mk (blk_below (g := gb172) (o := .cells #[.int .u8 a0_0, .int .i64 a0_1, .int .i64 a0_2, .int .i64 a0_3, .int .i64 a0_4, .int .u8 a0_5, .int .i64 a0_6, .int .i64 a0_7, .bool a0_8, .bool a0_9, .int .u8 a0_10, .int .i64 a0_11, .int .i64 a0_12, .int .i64 a0_13, .int .i64 a0_14, .int .u8 a0_15] 27 (0, 0)) (by (with_reducible repeat (first | refine kN ?_ _ | refine kD ?_ | refine kA ?_ _)); exact BK172.out) hb)
       have n2_ := Aside0.mk (below_step (by repeat (first | (with_reducible first | exact HB.out | apply kL | apply kM | apply kE | refine kS ?_ GE172.out) | exact HB.out)) hb)
       have z_HO176 := fun (h0_ : b 0 = true) (h1_ : b 5 = false) => (show Kd.R (Kd.int .u8) 5 w97 w.heap.size (fun _ => True) v175 t174 from by first | exact (Kd.R_below (by (with_reducible repeat (first | apply Kd.R_alloc | apply Kd.R_drewN | apply Kd.R_drew)); exact (Q_HO176 h0_ h1_)) hb) | exact Kd.R_mono (Kd.R_below (by (with_reducible repeat (first | apply Kd.R_alloc | apply Kd.R_drewN | apply Kd.R_drew)); exact (Q_HO176 h0_ h1_)) hb) (fun _ h_ => by first | trivial | exact h_ | exact h_.1))
       have z_BK178 := fun (h0_ : b 0 = true) (h1_ : b 5 = false) => (show w97.heap[gb178]? = some (.cells #[v175, .int .i64 t177] 60 (0, 0)) from by first | exact (blk_below (g := gb178) (o := .cells #[v175, .int .i64 t177] 60 (0, 0)) (by (with_reducible repeat (first | refine kN ?_ _ | refine kD ?_ | refine kA ?_ _)); exact (Q_BK178 h0_ h1_)) hb))
       clear BK172
       clear HB
       have HO181 := n0_
       have BK172 := n1_
       have HB := n2_
       clear n0_ n1_ n2_
       clear hb ho98
       refine hK.out _ _ ⟨v175, gb178, v180, v183, m0_, m5_, m6_, (by rw [ha.out]; exact putSel_upk 3 hb_ rfl rfl rfl), (by (with_reducible repeat (first | refine kN ?_ _ | refine kD ?_ | refine kA ?_ _)); exact BK172.out), (by repeat (first | (with_reducible first | exact HB.out | apply kL | apply kM | apply kE | refine kS ?_ GE172.out) | exact HB.out)), z_HO176, z_BK178, Q_GW178, Q_GE178, Q_NB172_178, Q_NB178_172, fun _ => (by (with_reducible repeat (first | apply Kd.R_alloc | apply Kd.R_drewN | apply Kd.R_drew)); exact HO181.out), fun h0_ => absurd ((hoff 5 (by kernel_rfl)).symm.trans h0_) (by decide), fun h0_ => absurd ((hoff 5 (by kernel_rfl)).symm.trans h0_) (by decide), Q_X0_, fun h0_ => absurd ((hoff 5 (by kernel_rfl)).symm.trans h0_) (by decide), fun h0_ => absurd ((hoff 6 (by kernel_rfl)).symm.trans h0_) (by decide)⟩
      refine steps_cons ?_ ?_
      ·rintro b a w' ⟨v175, gb178, v180, v183, m0_, m5_, m6_, ha, Q_BK172, Q_HB, Q_HO176, Q_BK178, Q_GW178, Q_GE178, Q_NB172_178, Q_NB178_172, Q_HO181, Q_HO184, Q_BK178_e5, Q_X0_, Q_X5_, Q_X6_⟩ hb_ hon hoff
       refine ⟨_, rfl, fun K hK => ?_⟩
       have e7 : a.tmps[7]? = some (m0_) := by rw [ha]; exact putSel_on (e := (0, 7, m0_)) 0 rfl rfl (hon 0 (by kernel_rfl)) rfl
       rw [Q_X0_ (hon 0 (by kernel_rfl))] at e7
       have e11 : a.tmps[11]? = some (v180) := by rw [ha]; exact putSel_on (e := (4, 11, v180)) 3 rfl rfl (hon 4 (by kernel_rfl)) rfl
       replace ha := Aside0.mk ha
       have BK172 := Aside0.mk Q_BK172
       have HB := Aside0.mk Q_HB
       have HO176 := Aside0.mk (Q_HO176 (hon 0 (by kernel_rfl)) hb_)
       have BK178 := Aside0.mk (Q_BK178 (hon 0 (by kernel_rfl)) hb_)
       have GW178 := Aside0.mk (Q_GW178 (hon 0 (by kernel_rfl)))
       have GE178 := Aside0.mk (Q_GE178 (hon 0 (by kernel_rfl)))
       have NB172_178 := Aside0.mk (Q_NB172_178 (hon 0 (by kernel_rfl)))
       have NB178_172 := Aside0.mk (Q_NB178_172 (hon 0 (by kernel_rfl)))
       have HO181 := Aside0.mk (Q_HO181 (hon 4 (by kernel_rfl)))
       obtain ⟨Ao101, co101, eo101⟩ := Kd.R_slice HO181.out
       (first | subst eo101 | (injection eo101 with f1_ f2_ f3_; have f4_ := f1_.symm; have f5_ := f3_.symm; clear f1_ f2_ f3_; subst f4_; subst f5_))
       refine goes_ Try.func30 (by kernel_rfl) rfl #[.pointer (some ⟨gb178, 0, none⟩), .slice Ao101 y179.length co101] (by rfl) rfl rfl (by first | (simp only [List.map_toArray, List.map_cons, List.map_nil, Act.eval, Array.getD_eq_getD_getElem?, Option.getD_some, e7, e11]; done) | (simp only [List.map_toArray, List.map_cons, List.map_nil, Act.eval, Array.getD_eq_getD_getElem?, Option.getD_some, e7, e11]; rfl)) ?_
       with_reducible refine (pack_Box_Put.calls k gb178 (fun k_ => some k_ = (v175 : Value).ownBlock) v175 t174 t177 _ _ y179 t182 t185 w _ ?side1 ?side2 ?side3 ?side4 ?side5 ?side6 A5.out).mono ?_
       (case side1 => repeat (first | (with_reducible first | exact HB.out | apply kL | apply kM | apply kE | refine kS ?_ GE172.out | refine kS ?_ GE178.out) | exact HB.out))
       (case side2 => exact (by (with_reducible repeat (first | refine kN ?_ _ | refine kD ?_ | refine kA ?_ _)); exact BK178.out))
       (case side3 => exact GE178.out)
       (case side4 => exact Kd.R_tight rfl HO176.out)
       (case side5 => exact Kd.C_kept_own ((Kd.R_types (Kd.R_apart' HO181.out (Kd.R_typed HO176.out) (by decide)) BK178.out (by decide))) (fun k_ hk_ hs_ => Or.elim hs_ (fun hs_ => (hk_.1.2) hs_) (fun e_ => (hk_.2) e_)))
       (case side6 => exact (Kd.R_reads' HO181.out).2.1)
       rintro e w102 ⟨v183, rfl, ho0, hi, hb, hkp⟩
       refine ⟨_, rfl, ?_⟩
       have n0_ := Aside0.mk (blk_kept (by (with_reducible repeat (first | refine kN ?_ _ | refine kD ?_ | refine kA ?_ _)); exact BK172.out) hkp (fun hs_ => Or.elim hs_ (fun hs_ => (fun e_ => (Kd.R_ne HO176.out BK172.out (by decide)) e_) hs_) (fun e_ => NB172_178.out e_)))
       have n1_ := Aside0.mk (hi)
       have n2_ := Aside0.mk (Kd.R_mono (ok' := fun k_ => True) (Kd.R_keptB ((Kd.R_types (Kd.R_apart' HO181.out (Kd.R_typed HO176.out) (by decide)) BK178.out (by decide))) hkp (fun k_ hk_ hs_ => Or.elim hs_ (fun hs_ => (hk_.1.2) hs_) (fun e_ => (hk_.2) e_))) (fun k_ hk_ => trivial))
       have n3_ := Aside0.mk (Kd.R_mono (ok' := fun k_ => True) ho0 (fun k_ hk_ => trivial))
       have n4_ := Aside0.mk (hb)
       clear BK172
       clear BK178
       clear HO181
       clear HB
       clear HO176
       have BK172 := n0_
       have BK178 := n1_
       have HO181 := n2_
       have HO184 := n3_
       have HB := n4_
       clear n0_ n1_ n2_ n3_ n4_
       (try clear hb)
       (try clear hkp)
       (try clear hi)
       (try clear ho0)
       refine hK.out _ _ ⟨v175, gb178, .slice Ao101 y179.length co101, v183, m0_, (.pointer (some ⟨gb178, 0, none⟩)), m6_, (by rw [ha.out]; exact putSel_upk 4 hb_ rfl rfl rfl), (by (with_reducible repeat (first | refine kN ?_ _ | refine kD ?_ | refine kA ?_ _)); exact BK172.out), (by repeat (first | (with_reducible first | exact HB.out | apply kL | apply kM | apply kE | refine kS ?_ GE172.out | refine kS ?_ GE178.out) | exact HB.out)), fun _ h1_ => absurd ((up_self b 5).symm.trans h1_) (by decide), fun _ h1_ => absurd ((up_self b 5).symm.trans h1_) (by decide), fun _ => GW178.out, fun _ => GE178.out, fun _ => NB172_178.out, fun _ => NB178_172.out, fun _ => (by (with_reducible repeat (first | apply Kd.R_alloc | apply Kd.R_drewN | apply Kd.R_drew)); exact HO181.out), fun _ => (by (with_reducible repeat (first | apply Kd.R_alloc | apply Kd.R_drewN | apply Kd.R_drew)); exact HO184.out), fun _ => (by (with_reducible repeat (first | refine kN ?_ _ | refine kD ?_ | refine kA ?_ _)); exact BK178.out), Q_X0_, fun _ => rfl, fun h0_ => absurd ((hoff 6 (by kernel_rfl)).symm.trans h0_) (by decide)⟩
      refine steps_cons ?_ ?_
      ·rintro b a w' ⟨v175, gb178, v180, v183, m0_, m5_, m6_, ha, Q_BK172, Q_HB, Q_HO176, Q_BK178, Q_GW178, Q_GE178, Q_NB172_178, Q_NB178_172, Q_HO181, Q_HO184, Q_BK178_e5, Q_X0_, Q_X5_, Q_X6_⟩ hb_ hon hoff
       refine ⟨_, rfl, fun K hK => ?_⟩
       have e12 : a.tmps[12]? = some (m5_) := by rw [ha]; exact putSel_on (e := (5, 12, m5_)) 4 rfl rfl (hon 5 (by kernel_rfl)) rfl
       rw [Q_X5_ (hon 5 (by kernel_rfl))] at e12
       replace ha := Aside0.mk ha
       have BK172 := Aside0.mk Q_BK172
       have HB := Aside0.mk Q_HB
       have GW178 := Aside0.mk (Q_GW178 (hon 0 (by kernel_rfl)))
       have GE178 := Aside0.mk (Q_GE178 (hon 0 (by kernel_rfl)))
       have NB172_178 := Aside0.mk (Q_NB172_178 (hon 0 (by kernel_rfl)))
       have NB178_172 := Aside0.mk (Q_NB178_172 (hon 0 (by kernel_rfl)))
       have HO181 := Aside0.mk (Q_HO181 (hon 4 (by kernel_rfl)))
       have HO184 := Aside0.mk (Q_HO184 (hon 5 (by kernel_rfl)))
       have BK178 := Aside0.mk (Q_BK178_e5 (hon 5 (by kernel_rfl)))
       refine value_ (w1 := w') (v := .pointer (some ⟨gb178, 0, none⟩)) (by rfl) rfl ?_ ?_
       ·go_simp
        (try simp only [i64_w])
        try rfl
       refine hK.out _ _ ⟨v175, gb178, v180, v183, m0_, m5_, (.pointer (some ⟨gb178, 0, none⟩)), (by rw [ha.out]; exact putSel_upk 5 hb_ rfl rfl rfl), Q_BK172, Q_HB, fun _ h1_ => absurd ((hon 5 (by kernel_rfl)).symm.trans h1_) (by decide), fun _ h1_ => absurd ((hon 5 (by kernel_rfl)).symm.trans h1_) (by decide), Q_GW178, Q_GE178, Q_NB172_178, Q_NB178_172, Q_HO181, Q_HO184, Q_BK178_e5, Q_X0_, Q_X5_, fun _ => rfl⟩
      exact steps_nil
     rintro b a w102 hall ⟨v175, gb178, v180, v183, m0_, m5_, m6_, ha, Q_BK172, Q_HB, Q_HO176, Q_BK178, Q_GW178, Q_GE178, Q_NB172_178, Q_NB178_172, Q_HO181, Q_HO184, Q_BK178_e5, Q_X0_, Q_X5_, Q_X6_⟩
     clear BK172 HB
     have hb0_ := hall 0 (by kernel_rfl)
     have hb2_ := hall 2 (by kernel_rfl)
     have hb3_ := hall 3 (by kernel_rfl)
     have hb4_ := hall 4 (by kernel_rfl)
     have hb5_ := hall 5 (by kernel_rfl)
     have hb6_ := hall 6 (by kernel_rfl)
     subst ha
     obtain rfl := Q_X0_ hb0_
     obtain rfl := Q_X5_ hb5_
     obtain rfl := Q_X6_ hb6_
     simp only [putSel, hb0_, hb2_, hb3_, hb4_, hb5_, hb6_, if_true, Act.put, List.setIfInBounds_toArray, List.set_cons_zero, List.set_cons_succ]
     have BK172 := Aside0.mk Q_BK172
     clear Q_BK172
     have HB := Aside0.mk Q_HB
     clear Q_HB
     clear Q_HO176
     clear Q_BK178
     have GW178 := Aside0.mk (Q_GW178 hb0_)
     clear Q_GW178
     have GE178 := Aside0.mk (Q_GE178 hb0_)
     clear Q_GE178
     have NB172_178 := Aside0.mk (Q_NB172_178 hb0_)
     clear Q_NB172_178
     have NB178_172 := Aside0.mk (Q_NB178_172 hb0_)
     clear Q_NB178_172
     have HO181 := Aside0.mk (Q_HO181 hb4_)
     clear Q_HO181
     have HO184 := Aside0.mk (Q_HO184 hb5_)
     clear Q_HO184
     have BK178 := Aside0.mk (Q_BK178_e5 hb5_)
     clear Q_BK178_e5
     clear hall hb0_ hb2_ hb3_ hb4_ hb5_ hb6_
     have hnb103 := NB172_178.out
     have hnc103 := NB178_172.out
     obtain ⟨hcz104_0, hcz104_1, hcz104_2, hcz104_3, hcz104_4, hcz104_5, hcz104_6, hcz104_7, hcz104_8, hcz104_9, hcz104_10, hcz104_11, hcz104_12, hcz104_13, hcz104_14, hcz104_15, hfz104_0, hfz104_1, hfz104_2, hfz104_3, hfz104_4, hfz104_5, hfz104_6, hfz104_7, hfz104_8, hfz104_9, hfz104_10, hfz104_11, hfz104_12, hfz104_13, hfz104_14, hfz104_15⟩ := bxc16 BK172.out
     try go_wp2_with (first | ((with_reducible refine gate_callee (f := 26) rfl ?_); refine goesL_ (some 20) rfl rfl Try.func26 (by kernel_rfl) rfl #[.int .u8 a0_0] rfl (by (try simp only [List.map_toArray, List.map_cons, List.map_nil]); first | done | rfl | (simp only [List.length_drop, List.length_take]; rfl)) ?_; (with_reducible refine (order_subs.calls a0_0 false _ A6.out).mono ?_); rintro e w' ⟨rfl, ⟨nd, rfl⟩⟩; refine ⟨_, rfl, ?_⟩) | ((with_reducible refine gate_callee (f := 18) rfl ?_); refine goesL_ (some 16) rfl rfl Try.func18 (by kernel_rfl) rfl #[.pointer (some ⟨gb178, 0, none⟩), .agg #[.int .u8 a0_10, .int .i64 a0_11, .int .i64 a0_12, .int .i64 a0_13, .int .i64 a0_14, .int .u8 a0_15]] rfl (by (try simp only [List.map_toArray, List.map_cons, List.map_nil]); first | done | rfl | (simp only [List.length_drop, List.length_take]; rfl)) ?_; (with_reducible refine (order_Put.calls k gb178 (fun k_ => some k_ = (v183 : Value).ownBlock) v183 t182 t185 a0_10 a0_11 a0_12 a0_13 a0_14 a0_15 t241 t244 w _ ?side1 ?side2 ?side3 ?side4 A91.out).mono ?_); (case side1 => repeat (first | (with_reducible first | exact HB.out | apply kL | apply kM | apply kE | refine kS ?_ GE172.out | refine kS ?_ GE178.out) | exact HB.out)); (case side2 => exact (by (with_reducible repeat (first | refine kN ?_ _ | refine kD ?_ | refine kA ?_ _)); exact BK178.out)); (case side3 => exact GE178.out); (case side4 => exact Kd.R_tight rfl HO184.out); rintro e w105 ⟨v242, rfl, ho0, hi, hb, hkp⟩; refine ⟨_, rfl, ?_⟩; have n0_ := Aside0.mk (blk_kept (by (with_reducible repeat (first | refine kN ?_ _ | refine kD ?_ | refine kA ?_ _)); exact BK172.out) hkp (fun hs_ => Or.elim hs_ (fun hs_ => (fun e_ => (Kd.R_ne HO184.out BK172.out (by decide)) e_) hs_) (fun e_ => NB172_178.out e_))); have n1_ := Aside0.mk (hi); have n2_ := Aside0.mk (Kd.R_mono (ok' := fun k_ => True) (Kd.R_keptB ((Kd.R_types (Kd.R_apart' HO181.out (Kd.R_typed HO184.out) (by decide)) BK178.out (by decide))) hkp (fun k_ hk_ hs_ => Or.elim hs_ (fun hs_ => (hk_.1.2) hs_) (fun e_ => (hk_.2) e_))) (fun k_ hk_ => trivial)); have n3_ := Aside0.mk (Kd.R_mono (ok' := fun k_ => True) ho0 (fun k_ hk_ => trivial)); have n4_ := Aside0.mk (hb); clear BK172; clear BK178; clear HO181; clear HB; clear HO184; have BK172 := n0_; have BK178 := n1_; have HO181 := n2_; have HO243 := n3_; have HB := n4_; clear n0_ n1_ n2_ n3_ n4_; (try clear hb); (try clear hkp); (try clear hi); (try clear ho0)) | ((with_reducible refine gate_callee (f := 20) rfl ?_); refine goesL_ (some 52) rfl rfl Try.func20 (by kernel_rfl) rfl #[.pointer (some ⟨gb178, 0, none⟩)] rfl (by (try simp only [List.map_toArray, List.map_cons, List.map_nil]); first | done | rfl | (simp only [List.length_drop, List.length_take]; rfl)) ?_; (with_reducible refine (pack_Box_Done.calls gb178 (fun k_ => some k_ = (v242 : Value).ownBlock) v242 t241 t244 t245 t248 t251 w _ ?side1 ?side2 ?side3 ?side4 A92.out).mono ?_); (case side1 => repeat (first | (with_reducible first | exact HB.out | apply kL | apply kM | apply kE | refine kS ?_ GE172.out | refine kS ?_ GE178.out) | exact HB.out)); (case side2 => exact (by (with_reducible repeat (first | refine kN ?_ _ | refine kD ?_ | refine kA ?_ _)); exact BK178.out)); (case side3 => exact GE178.out); (case side4 => exact Kd.R_tight rfl HO243.out); rintro e w106 ⟨v246, v249, rfl, ho0, ho1, hi, hb, hkp⟩; refine ⟨_, rfl, ?_⟩; have n0_ := Aside0.mk (blk_kept (by (with_reducible repeat (first | refine kN ?_ _ | refine kD ?_ | refine kA ?_ _)); exact BK172.out) hkp (fun hs_ => Or.elim hs_ (fun hs_ => (fun e_ => (Kd.R_ne HO243.out BK172.out (by decide)) e_) hs_) (fun e_ => NB172_178.out e_))); have n1_ := Aside0.mk (hi); have n2_ := Aside0.mk (Kd.R_mono (ok' := fun k_ => True) (Kd.R_keptB ((Kd.R_types (Kd.R_apart' HO181.out (Kd.R_typed HO243.out) (by decide)) BK178.out (by decide))) hkp (fun k_ hk_ hs_ => Or.elim hs_ (fun hs_ => (hk_.1.2) hs_) (fun e_ => (hk_.2) e_))) (fun k_ hk_ => trivial)); have n3_ := Aside0.mk (Kd.R_mono (ok' := fun k_ => some k_ ≠ (v249 : Value).ownBlock) ho0 (fun k_ hk_ => hk_.2)); have n4_ := Aside0.mk (Kd.R_mono (ok' := fun k_ => some k_ ≠ (v246 : Value).ownBlock) ho1 (fun k_ hk_ => hk_.2)); have n5_ := Aside0.mk (hb); clear BK172; clear BK178; clear HO181; clear HB; clear HO243; have BK172 := n0_; have BK178 := n1_; have HO181 := n2_; have HO247 := n3_; have HO250 := n4_; have HB := n5_; clear n0_ n1_ n2_ n3_ n4_ n5_; (try clear hb); (try clear hkp); (try clear hi); (try clear ho0); (try clear ho1)))
     go_ret
     exact ⟨_, by first | rfl | (simp [errW_none, errW_some] <;> rfl) | (simp [*, errW_none, errW_some] <;> rfl), by (with_reducible repeat (first | apply Kd.R_alloc | apply Kd.R_drewN | apply Kd.R_drew)); exact Kd.R_mono HO247.out (fun _ hk => trivial), by repeat (first | (with_reducible first | exact HB.out | apply kL | apply kM | apply kE | refine kS ?_ GE172.out | refine kS ?_ GE178.out) | exact HB.out)⟩
 ·rw [if_neg c3] at H
  have c3b0 : (t173 == 0) = false := beq_eq_false_iff_ne.mpr c3
  have c3b1 : (t173 != 0) = true := bne_iff_ne.mpr c3
  obtain rfl := Option.some.inj H
  go_enter Try.func15, Try.ntmps15
  go_wp2_with (first | ((with_reducible refine gate_dst (N := 1) rfl ?_); refine box_event ?hg (N := 1) ?hd (cs := #[.int .u8 a0_0, .int .i64 a0_1, .int .i64 a0_2, .int .i64 a0_3, .int .i64 a0_4, .int .u8 a0_5, .int .i64 a0_6, .int .i64 a0_7, .bool a0_8, .bool a0_9, .int .u8 a0_10, .int .i64 a0_11, .int .i64 a0_12, .int .i64 a0_13, .int .i64 a0_14, .int .u8 a0_15]) (t := 27) ?hr ?_; (case hd => rfl); (case hg => rfl); (case hr => first | (go_simp; done) | (go_simp; rfl)); intro gb172 hg w107 hbox hb; have n0_ := Aside0.mk (below_step (by repeat (first | (with_reducible first | exact HB.out | apply kL | apply kM | apply kE) | exact HB.out)) hb); have n1_ := Aside0.mk (hbox); have n2_ := Aside0.mk ((by rw [hg]; exact (below_size (by repeat (first | (with_reducible first | exact HB.out | apply kL | apply kM | apply kE) | exact HB.out))) : w.heap.size ≤ gb172)); have n3_ := Aside0.mk ((by rw [hg]; exact (below_size (by repeat (first | (with_reducible first | exact HB.out | apply kL | apply kM | apply kE) | exact HB.out))) : w.heap.size ≤ gb172)); clear HB; have HB := n0_; have BK172 := n1_; have GW172 := n2_; have GE172 := n3_; clear n0_ n1_ n2_ n3_; clear hb hbox hg; obtain ⟨hcz108_0, hcz108_1, hcz108_2, hcz108_3, hcz108_4, hcz108_5, hcz108_6, hcz108_7, hcz108_8, hcz108_9, hcz108_10, hcz108_11, hcz108_12, hcz108_13, hcz108_14, hcz108_15, hfz108_0, hfz108_1, hfz108_2, hfz108_3, hfz108_4, hfz108_5, hfz108_6, hfz108_7, hfz108_8, hfz108_9, hfz108_10, hfz108_11, hfz108_12, hfz108_13, hfz108_14, hfz108_15⟩ := bxc16 BK172.out) | ((with_reducible refine gate_dst (N := 4) rfl ?_); refine wpList_load_row rfl 27 (.tmp 1) rfl gb172 rfl 27 #[.int .u8 a0_0, .int .i64 a0_1, .int .i64 a0_2, .int .i64 a0_3, .int .i64 a0_4, .int .u8 a0_5, .int .i64 a0_6, .int .i64 a0_7, .bool a0_8, .bool a0_9, .int .u8 a0_10, .int .i64 a0_11, .int .i64 a0_12, .int .i64 a0_13, .int .i64 a0_14, .int .u8 a0_15] (0, 0) _ (by (with_reducible repeat (first | refine kN ?_ _ | refine kD ?_ | refine kA ?_ _)); exact BK172.out) Try.underlying27 rfl (by kernel_rfl) ?_) | ((with_reducible refine gate_callee (f := 11) rfl ?_); refine goesL_ (some 5) rfl rfl Try.func11 (by kernel_rfl) rfl #[.agg #[.int .u8 a0_0, .int .i64 a0_1, .int .i64 a0_2, .int .i64 a0_3, .int .i64 a0_4, .int .u8 a0_5, .int .i64 a0_6, .int .i64 a0_7, .bool a0_8, .bool a0_9, .int .u8 a0_10, .int .i64 a0_11, .int .i64 a0_12, .int .i64 a0_13, .int .i64 a0_14, .int .u8 a0_15]] rfl (by (try simp only [List.map_toArray, List.map_cons, List.map_nil]); first | done | rfl | (simp only [List.length_drop, List.length_take]; rfl)) ?_; (with_reducible refine (order_Right.calls k a0_0 a0_1 a0_2 a0_3 a0_4 a0_5 a0_6 a0_7 a0_8 a0_9 a0_10 a0_11 a0_12 a0_13 a0_14 a0_15 t173 _ A2.out).mono ?_); rintro e w109 ⟨rfl, hb⟩; refine ⟨_, rfl, ?_⟩; have n0_ := Aside0.mk (blk_below (g := gb172) (o := .cells #[.int .u8 a0_0, .int .i64 a0_1, .int .i64 a0_2, .int .i64 a0_3, .int .i64 a0_4, .int .u8 a0_5, .int .i64 a0_6, .int .i64 a0_7, .bool a0_8, .bool a0_9, .int .u8 a0_10, .int .i64 a0_11, .int .i64 a0_12, .int .i64 a0_13, .int .i64 a0_14, .int .u8 a0_15] 27 (0, 0)) (by (with_reducible repeat (first | refine kN ?_ _ | refine kD ?_ | refine kA ?_ _)); exact BK172.out) hb); have n1_ := Aside0.mk (below_step (by repeat (first | (with_reducible first | exact HB.out | apply kL | apply kM | apply kE | refine kS ?_ GE172.out) | exact HB.out)) hb); clear BK172; clear HB; have BK172 := n0_; have HB := n1_; clear n0_ n1_; (try clear hb); (try clear hb2); (try clear hk); (try clear hi)))
  go_ret
  exact ⟨_, by first | rfl | (simp [errW_none, errW_some] <;> rfl) | (simp [*, errW_none, errW_some] <;> rfl), by first | exact Kd.R_nil _ _ _ _ _ | exact Kd.N_nil _ _ _ _ _ | exact Kd.V_nil _ _ _ _ _ | exact Kd.Q_nil _ _ _ _ _ | exact Kd.S_nil _ _ _ _ _, by repeat (first | (with_reducible first | exact HB.out | apply kL | apply kM | apply kE | refine kS ?_ GE172.out) | exact HB.out)⟩

end Go.Proofs.Ytlihgjonmliodaa.PA
