-- printed by this workplace: wip/patchprint.py over the kit's print
import Derived.Test.YtbjelaocihjhgaaPAx0
namespace Go.Proofs.Ytbjelaocihjhgaa.PA
open Go.RowKit Go.Proofs.YtbjelaocihjhgaaW.PrintWords Go.Proofs.YtbjelaocihjhgaaW.PrintLast Go.Proofs.YtbjelaocihjhgaaW.PrintMore
attribute [local go_sem] max2_int min2_int max_two min_two max_three min_three max_four min_four   -- for this text's walks alone
set_option linter.unusedVariables false
set_option linter.unusedSimpArgs false

/-! ### paybooklaw09_right: function 13 -/
def paybooklaw09_right.j0 : Nat → Bool → Int → Int → Int → Int → Bool → Bool → Option (Int)
 | 0, _, _, _, _, _, _, _ => none
 | k + 1, x25, x170000, x170001, x170002, x170003, x170004, x170005 => if x25 = true then (some 1) else (if x170000 < 0 then (some 9) else (if x170000 > 1073741824 then (some 9) else (some 0)))
def paybooklaw09_right.f (k : Nat) (a0_0 : Int) (a0_1 : Int) (a0_2 : Int) (a0_3 : Int) (a0_4 : Bool) (a0_5 : Bool) : Option (Int) := if a0_1 > 3 then (paybooklaw09_right.j0 k true a0_0 a0_1 a0_2 a0_3 a0_4 a0_5) else (if a0_2 < 1 then (paybooklaw09_right.j0 k true a0_0 a0_1 a0_2 a0_3 a0_4 a0_5) else (if a0_2 > 1000 then (paybooklaw09_right.j0 k true a0_0 a0_1 a0_2 a0_3 a0_4 a0_5) else (if a0_3 < 0 then (paybooklaw09_right.j0 k true a0_0 a0_1 a0_2 a0_3 a0_4 a0_5) else (paybooklaw09_right.j0 k (decide (a0_3 > 1000)) a0_0 a0_1 a0_2 a0_3 a0_4 a0_5))))
theorem paybooklaw09_right.mono_l : ∀ k, (∀ y0 y1 y2 y3 y4 y5 y6, LeO (paybooklaw09_right.j0 k y0 y1 y2 y3 y4 y5 y6) (paybooklaw09_right.j0 (k + 1) y0 y1 y2 y3 y4 y5 y6))
 | 0 => fun _ _ _ _ _ _ _ r h => by simp [paybooklaw09_right.j0] at h
 | k + 1 => by
  have ih0 := paybooklaw09_right.mono_l k
  ·intro y0 y1 y2 y3 y4 y5 y6
   unfold paybooklaw09_right.j0
   repeat' first
   | (with_reducible exact ih0 _ _ _ _ _ _ _)
   | (with_reducible exact LeO.refl _)
   | (with_reducible exact LeO.none _)
   | (with_reducible refine LeO.ite ?_ ?_)
   | (with_reducible refine LeO.bind ?_ (fun _ => ?_))
   | exact ih0 _ _ _ _ _ _ _
   | exact LeO.none _
   | refine LeO.ite ?_ ?_
   | refine LeO.bind ?_ (fun _ => ?_)
theorem paybooklaw09_right.mono : ∀ a0 a1 a2 a3 a4 a5 k, LeO (paybooklaw09_right.f k a0 a1 a2 a3 a4 a5) (paybooklaw09_right.f (k + 1) a0 a1 a2 a3 a4 a5) := by
 intro a0 a1 a2 a3 a4 a5 k
 have ih0 := paybooklaw09_right.mono_l k
 unfold paybooklaw09_right.f
 repeat' first
   | (with_reducible exact ih0 _ _ _ _ _ _ _)
   | (with_reducible exact LeO.refl _)
   | (with_reducible exact LeO.none _)
   | (with_reducible refine LeO.ite ?_ ?_)
   | (with_reducible refine LeO.bind ?_ (fun _ => ?_))
   | exact ih0 _ _ _ _ _ _ _
   | exact LeO.none _
   | refine LeO.ite ?_ ?_
   | refine LeO.bind ?_ (fun _ => ?_)
set_option maxHeartbeats 40000000 in
set_option maxRecDepth 100000 in
theorem paybooklaw09_right.calls (k : Nat) (a0_0 : Int) (a0_1 : Int) (a0_2 : Int) (a0_3 : Int) (a0_4 : Bool) (a0_5 : Bool) (r : Int) (w : World) (h : paybooklaw09_right.f k a0_0 a0_1 a0_2 a0_3 a0_4 a0_5 = some r) :
  Calls Try.prog 13 #[.agg #[.int .i64 a0_0, .int .u8 a0_1, .int .i64 a0_2, .int .i64 a0_3, .bool a0_4, .bool a0_5]] w fun e w' => e = .returned (.int .i64 r) ∧ Below w.heap.size w w' := by
 have hu23 := Try.underlying23
 have HB := Aside0.mk (Below.refl w.heap.size w)
 have H : (if a0_1 > 3 then (paybooklaw09_right.j0 k true a0_0 a0_1 a0_2 a0_3 a0_4 a0_5) else (if a0_2 < 1 then (paybooklaw09_right.j0 k true a0_0 a0_1 a0_2 a0_3 a0_4 a0_5) else (if a0_2 > 1000 then (paybooklaw09_right.j0 k true a0_0 a0_1 a0_2 a0_3 a0_4 a0_5) else (if a0_3 < 0 then (paybooklaw09_right.j0 k true a0_0 a0_1 a0_2 a0_3 a0_4 a0_5) else (paybooklaw09_right.j0 k (decide (a0_3 > 1000)) a0_0 a0_1 a0_2 a0_3 a0_4 a0_5))))) = some r := h
 clear h
 have HC2 := Aside0.mk H
 clear H
 go_enter Try.func13, Try.ntmps13
 go_upto_region 1 with (first | ((with_reducible refine gate_dst (N := 1) rfl ?_); refine box_event ?hg (N := 1) ?hd (cs := #[.int .i64 a0_0, .int .u8 a0_1, .int .i64 a0_2, .int .i64 a0_3, .bool a0_4, .bool a0_5]) (t := 23) ?hr ?_; (case hd => rfl); (case hg => rfl); (case hr => first | (go_simp; done) | (go_simp; rfl)); intro gb169 hg w3 hbox hb; have n0_ := Aside0.mk (below_step (by repeat (first | (with_reducible first | exact HB.out | apply kL | apply kM | apply kE) | exact HB.out)) hb); have n1_ := Aside0.mk (hbox); have n2_ := Aside0.mk ((by rw [hg]; exact (below_size (by repeat (first | (with_reducible first | exact HB.out | apply kL | apply kM | apply kE) | exact HB.out))) : w.heap.size ≤ gb169)); have n3_ := Aside0.mk ((by rw [hg]; exact (below_size (by repeat (first | (with_reducible first | exact HB.out | apply kL | apply kM | apply kE) | exact HB.out))) : w.heap.size ≤ gb169)); clear HB; have HB := n0_; have BK169 := n1_; have GW169 := n2_; have GE169 := n3_; clear n0_ n1_ n2_ n3_; clear hb hbox hg))
 (try simp only [Act.put, List.setIfInBounds_toArray, List.set_cons_zero, List.set_cons_succ])
 go_cut [25] (fun v25 wc => ∃ (kq : Nat) (x25_1 : Bool), v25 = .bool x25_1 ∧ Aside0 (paybooklaw09_right.j0 kq x25_1 a0_0 a0_1 a0_2 a0_3 a0_4 a0_5 = some r) ∧ Aside0 (kq ≤ k) ∧ Aside0 (wc.heap[gb169]? = some (.cells #[.int .i64 a0_0, .int .u8 a0_1, .int .i64 a0_2, .int .i64 a0_3, .bool a0_4, .bool a0_5] 23 (0, 0))) ∧ Aside0 (Below w.heap.size w wc))
 case first =>
  have H := HC2.out
  clear HC2
  by_cases c4 : a0_1 > 3
  ·rw [if_pos c4] at H
   have c4b0 : decide (3 < a0_1) = true := decide_eq_true c4
   clear c4
   (first | (generalize hg_ : decide (3 < a0_1) = bg_ at *; subst c4b0; have c4b0 := hg_; clear hg_) | rw [c4b0] | (simp only [i64_w, i32_w]; rw [c4b0]) | skip)
   have H' := Aside0.mk H
   clear H
   have hcz5_0 : w3.cell? ⟨gb169, 0, none⟩ = some (.int .i64 a0_0) := (kC BK169.out 0).trans rfl
   have hcz5_1 : w3.cell? ⟨gb169, 1, none⟩ = some (.int .u8 a0_1) := (kC BK169.out 1).trans rfl
   have hcz5_2 : w3.cell? ⟨gb169, 2, none⟩ = some (.int .i64 a0_2) := (kC BK169.out 2).trans rfl
   have hcz5_3 : w3.cell? ⟨gb169, 3, none⟩ = some (.int .i64 a0_3) := (kC BK169.out 3).trans rfl
   have hcz5_4 : w3.cell? ⟨gb169, 4, none⟩ = some (.bool a0_4) := (kC BK169.out 4).trans rfl
   have hcz5_5 : w3.cell? ⟨gb169, 5, none⟩ = some (.bool a0_5) := (kC BK169.out 5).trans rfl
   have hfz5_0 := kF BK169.out 0
   have hfz5_1 := kF BK169.out 1
   have hfz5_2 := kF BK169.out 2
   have hfz5_3 := kF BK169.out 3
   have hfz5_4 := kF BK169.out 4
   have hfz5_5 := kF BK169.out 5
   go_wp2
   go_meet
   case rel => exact ⟨_, (true), (by first | rfl | (simp; done) | (simp [*]; done)), H', ⟨by first | omega | exact Nat.le_refl _⟩, ⟨by (with_reducible repeat (first | refine kN ?_ _ | refine kD ?_ | refine kA ?_ _)); exact BK169.out⟩, ⟨by repeat (first | (with_reducible first | exact HB.out | apply kL | apply kM | apply kE | refine kS ?_ GE169.out) | exact HB.out)⟩⟩
  ·rw [if_neg c4] at H
   have c4b0 : decide (3 < a0_1) = false := decide_eq_false c4
   clear c4
   (first | (generalize hg_ : decide (3 < a0_1) = bg_ at *; subst c4b0; have c4b0 := hg_; clear hg_) | rw [c4b0] | (simp only [i64_w, i32_w]; rw [c4b0]) | skip)
   by_cases c6 : a0_2 < 1
   ·rw [if_pos c6] at H
    have c6b0 : decide (a0_2 < 1) = true := decide_eq_true c6
    clear c6
    have H' := Aside0.mk H
    clear H
    have hcz7_0 : w3.cell? ⟨gb169, 0, none⟩ = some (.int .i64 a0_0) := (kC BK169.out 0).trans rfl
    have hcz7_1 : w3.cell? ⟨gb169, 1, none⟩ = some (.int .u8 a0_1) := (kC BK169.out 1).trans rfl
    have hcz7_2 : w3.cell? ⟨gb169, 2, none⟩ = some (.int .i64 a0_2) := (kC BK169.out 2).trans rfl
    have hcz7_3 : w3.cell? ⟨gb169, 3, none⟩ = some (.int .i64 a0_3) := (kC BK169.out 3).trans rfl
    have hcz7_4 : w3.cell? ⟨gb169, 4, none⟩ = some (.bool a0_4) := (kC BK169.out 4).trans rfl
    have hcz7_5 : w3.cell? ⟨gb169, 5, none⟩ = some (.bool a0_5) := (kC BK169.out 5).trans rfl
    have hfz7_0 := kF BK169.out 0
    have hfz7_1 := kF BK169.out 1
    have hfz7_2 := kF BK169.out 2
    have hfz7_3 := kF BK169.out 3
    have hfz7_4 := kF BK169.out 4
    have hfz7_5 := kF BK169.out 5
    go_wp2
    go_meet
    case rel => exact ⟨_, (true), (by first | rfl | (simp; done) | (simp [*]; done)), H', ⟨by first | omega | exact Nat.le_refl _⟩, ⟨by (with_reducible repeat (first | refine kN ?_ _ | refine kD ?_ | refine kA ?_ _)); exact BK169.out⟩, ⟨by repeat (first | (with_reducible first | exact HB.out | apply kL | apply kM | apply kE | refine kS ?_ GE169.out) | exact HB.out)⟩⟩
   ·rw [if_neg c6] at H
    have c6b0 : decide (a0_2 < 1) = false := decide_eq_false c6
    clear c6
    by_cases c8 : a0_2 > 1000
    ·rw [if_pos c8] at H
     have c8b0 : decide (1000 < a0_2) = true := decide_eq_true c8
     clear c8
     have H' := Aside0.mk H
     clear H
     have hcz9_0 : w3.cell? ⟨gb169, 0, none⟩ = some (.int .i64 a0_0) := (kC BK169.out 0).trans rfl
     have hcz9_1 : w3.cell? ⟨gb169, 1, none⟩ = some (.int .u8 a0_1) := (kC BK169.out 1).trans rfl
     have hcz9_2 : w3.cell? ⟨gb169, 2, none⟩ = some (.int .i64 a0_2) := (kC BK169.out 2).trans rfl
     have hcz9_3 : w3.cell? ⟨gb169, 3, none⟩ = some (.int .i64 a0_3) := (kC BK169.out 3).trans rfl
     have hcz9_4 : w3.cell? ⟨gb169, 4, none⟩ = some (.bool a0_4) := (kC BK169.out 4).trans rfl
     have hcz9_5 : w3.cell? ⟨gb169, 5, none⟩ = some (.bool a0_5) := (kC BK169.out 5).trans rfl
     have hfz9_0 := kF BK169.out 0
     have hfz9_1 := kF BK169.out 1
     have hfz9_2 := kF BK169.out 2
     have hfz9_3 := kF BK169.out 3
     have hfz9_4 := kF BK169.out 4
     have hfz9_5 := kF BK169.out 5
     go_wp2
     go_meet
     case rel => exact ⟨_, (true), (by first | rfl | (simp; done) | (simp [*]; done)), H', ⟨by first | omega | exact Nat.le_refl _⟩, ⟨by (with_reducible repeat (first | refine kN ?_ _ | refine kD ?_ | refine kA ?_ _)); exact BK169.out⟩, ⟨by repeat (first | (with_reducible first | exact HB.out | apply kL | apply kM | apply kE | refine kS ?_ GE169.out) | exact HB.out)⟩⟩
    ·rw [if_neg c8] at H
     have c8b0 : decide (1000 < a0_2) = false := decide_eq_false c8
     clear c8
     by_cases c10 : a0_3 < 0
     ·rw [if_pos c10] at H
      have c10b0 : decide (a0_3 < 0) = true := decide_eq_true c10
      clear c10
      have H' := Aside0.mk H
      clear H
      have hcz11_0 : w3.cell? ⟨gb169, 0, none⟩ = some (.int .i64 a0_0) := (kC BK169.out 0).trans rfl
      have hcz11_1 : w3.cell? ⟨gb169, 1, none⟩ = some (.int .u8 a0_1) := (kC BK169.out 1).trans rfl
      have hcz11_2 : w3.cell? ⟨gb169, 2, none⟩ = some (.int .i64 a0_2) := (kC BK169.out 2).trans rfl
      have hcz11_3 : w3.cell? ⟨gb169, 3, none⟩ = some (.int .i64 a0_3) := (kC BK169.out 3).trans rfl
      have hcz11_4 : w3.cell? ⟨gb169, 4, none⟩ = some (.bool a0_4) := (kC BK169.out 4).trans rfl
      have hcz11_5 : w3.cell? ⟨gb169, 5, none⟩ = some (.bool a0_5) := (kC BK169.out 5).trans rfl
      have hfz11_0 := kF BK169.out 0
      have hfz11_1 := kF BK169.out 1
      have hfz11_2 := kF BK169.out 2
      have hfz11_3 := kF BK169.out 3
      have hfz11_4 := kF BK169.out 4
      have hfz11_5 := kF BK169.out 5
      go_wp2
      go_meet
      case rel => exact ⟨_, (true), (by first | rfl | (simp; done) | (simp [*]; done)), H', ⟨by first | omega | exact Nat.le_refl _⟩, ⟨by (with_reducible repeat (first | refine kN ?_ _ | refine kD ?_ | refine kA ?_ _)); exact BK169.out⟩, ⟨by repeat (first | (with_reducible first | exact HB.out | apply kL | apply kM | apply kE | refine kS ?_ GE169.out) | exact HB.out)⟩⟩
     ·rw [if_neg c10] at H
      have c10b0 : decide (a0_3 < 0) = false := decide_eq_false c10
      clear c10
      have H' := Aside0.mk H
      clear H
      have hcz12_0 : w3.cell? ⟨gb169, 0, none⟩ = some (.int .i64 a0_0) := (kC BK169.out 0).trans rfl
      have hcz12_1 : w3.cell? ⟨gb169, 1, none⟩ = some (.int .u8 a0_1) := (kC BK169.out 1).trans rfl
      have hcz12_2 : w3.cell? ⟨gb169, 2, none⟩ = some (.int .i64 a0_2) := (kC BK169.out 2).trans rfl
      have hcz12_3 : w3.cell? ⟨gb169, 3, none⟩ = some (.int .i64 a0_3) := (kC BK169.out 3).trans rfl
      have hcz12_4 : w3.cell? ⟨gb169, 4, none⟩ = some (.bool a0_4) := (kC BK169.out 4).trans rfl
      have hcz12_5 : w3.cell? ⟨gb169, 5, none⟩ = some (.bool a0_5) := (kC BK169.out 5).trans rfl
      have hfz12_0 := kF BK169.out 0
      have hfz12_1 := kF BK169.out 1
      have hfz12_2 := kF BK169.out 2
      have hfz12_3 := kF BK169.out 3
      have hfz12_4 := kF BK169.out 4
      have hfz12_5 := kF BK169.out 5
      go_wp2
      go_meet
      case rel => exact ⟨_, (decide (a0_3 > 1000)), (by first | rfl | (simp; done) | (simp [*]; done)), H', ⟨by first | omega | exact Nat.le_refl _⟩, ⟨by (with_reducible repeat (first | refine kN ?_ _ | refine kD ?_ | refine kA ?_ _)); exact BK169.out⟩, ⟨by repeat (first | (with_reducible first | exact HB.out | apply kL | apply kM | apply kE | refine kS ?_ GE169.out) | exact HB.out)⟩⟩
 case rest =>
  clear HC2
  try clear c1
  try clear p2
  try clear c4
  try clear c4b0
  try clear c6
  try clear c6b0
  try clear c8
  try clear c8b0
  try clear c10
  try clear c10b0
  try clear hcz11_0
  try clear hcz11_1
  try clear hcz11_2
  try clear hcz11_3
  try clear hcz11_4
  try clear hcz11_5
  try clear hcz12_0
  try clear hcz12_1
  try clear hcz12_2
  try clear hcz12_3
  try clear hcz12_4
  try clear hcz12_5
  try clear hcz5_0
  try clear hcz5_1
  try clear hcz5_2
  try clear hcz5_3
  try clear hcz5_4
  try clear hcz5_5
  try clear hcz7_0
  try clear hcz7_1
  try clear hcz7_2
  try clear hcz7_3
  try clear hcz7_4
  try clear hcz7_5
  try clear hcz9_0
  try clear hcz9_1
  try clear hcz9_2
  try clear hcz9_3
  try clear hcz9_4
  try clear hcz9_5
  try clear hfz11_0
  try clear hfz11_1
  try clear hfz11_2
  try clear hfz11_3
  try clear hfz11_4
  try clear hfz11_5
  try clear hfz12_0
  try clear hfz12_1
  try clear hfz12_2
  try clear hfz12_3
  try clear hfz12_4
  try clear hfz12_5
  try clear hfz5_0
  try clear hfz5_1
  try clear hfz5_2
  try clear hfz5_3
  try clear hfz5_4
  try clear hfz5_5
  try clear hfz7_0
  try clear hfz7_1
  try clear hfz7_2
  try clear hfz7_3
  try clear hfz7_4
  try clear hfz7_5
  try clear hfz9_0
  try clear hfz9_1
  try clear hfz9_2
  try clear hfz9_3
  try clear hfz9_4
  try clear hfz9_5
  obtain ⟨kq, x25_1, rfl, HA, HJ1, BK169, HB⟩ := hcut
  cases kq with
  | zero => exact absurd HA.out (by simp [paybooklaw09_right.j0])
  | succ kj1 =>
   have H := HA.out
   clear HA
   simp only [paybooklaw09_right.j0] at H
   by_cases c13 : x25_1 = true
   ·subst c13
    have H1 : (some 1) = some r := by rw [if_pos rfl] at H; try exact H
    clear H
    have H := H1
    clear H1
    obtain rfl := Option.some.inj H
    go_wp2
    go_ret
    exact ⟨by first | rfl | (simp [errW_none, errW_some] <;> rfl) | (simp [*, errW_none, errW_some] <;> rfl), by repeat (first | (with_reducible first | exact HB.out | apply kL | apply kM | apply kE | refine kS ?_ GE169.out) | exact HB.out)⟩
   ·replace c13 := Bool.eq_false_iff.mpr c13
    subst c13
    have H1 : (if a0_0 < 0 then (some 9) else (if a0_0 > 1073741824 then (some 9) else (some 0))) = some r := by rw [if_neg (show ¬ (false = true) by decide)] at H; try exact H
    clear H
    have H := H1
    clear H1
    by_cases c14 : a0_0 < 0
    ·rw [if_pos c14] at H
     have c14b0 : decide (a0_0 < 0) = true := decide_eq_true c14
     clear c14
     obtain rfl := Option.some.inj H
     have hcz15_0 : wc.cell? ⟨gb169, 0, none⟩ = some (.int .i64 a0_0) := (kC BK169.out 0).trans rfl
     have hcz15_1 : wc.cell? ⟨gb169, 1, none⟩ = some (.int .u8 a0_1) := (kC BK169.out 1).trans rfl
     have hcz15_2 : wc.cell? ⟨gb169, 2, none⟩ = some (.int .i64 a0_2) := (kC BK169.out 2).trans rfl
     have hcz15_3 : wc.cell? ⟨gb169, 3, none⟩ = some (.int .i64 a0_3) := (kC BK169.out 3).trans rfl
     have hcz15_4 : wc.cell? ⟨gb169, 4, none⟩ = some (.bool a0_4) := (kC BK169.out 4).trans rfl
     have hcz15_5 : wc.cell? ⟨gb169, 5, none⟩ = some (.bool a0_5) := (kC BK169.out 5).trans rfl
     have hfz15_0 := kF BK169.out 0
     have hfz15_1 := kF BK169.out 1
     have hfz15_2 := kF BK169.out 2
     have hfz15_3 := kF BK169.out 3
     have hfz15_4 := kF BK169.out 4
     have hfz15_5 := kF BK169.out 5
     go_wp2
     go_ret
     exact ⟨by first | rfl | (simp [errW_none, errW_some] <;> rfl) | (simp [*, errW_none, errW_some] <;> rfl), by repeat (first | (with_reducible first | exact HB.out | apply kL | apply kM | apply kE | refine kS ?_ GE169.out) | exact HB.out)⟩
    ·rw [if_neg c14] at H
     have c14b0 : decide (a0_0 < 0) = false := decide_eq_false c14
     clear c14
     by_cases c16 : a0_0 > 1073741824
     ·rw [if_pos c16] at H
      have c16b0 : decide (1073741824 < a0_0) = true := decide_eq_true c16
      clear c16
      obtain rfl := Option.some.inj H
      have hcz17_0 : wc.cell? ⟨gb169, 0, none⟩ = some (.int .i64 a0_0) := (kC BK169.out 0).trans rfl
      have hcz17_1 : wc.cell? ⟨gb169, 1, none⟩ = some (.int .u8 a0_1) := (kC BK169.out 1).trans rfl
      have hcz17_2 : wc.cell? ⟨gb169, 2, none⟩ = some (.int .i64 a0_2) := (kC BK169.out 2).trans rfl
      have hcz17_3 : wc.cell? ⟨gb169, 3, none⟩ = some (.int .i64 a0_3) := (kC BK169.out 3).trans rfl
      have hcz17_4 : wc.cell? ⟨gb169, 4, none⟩ = some (.bool a0_4) := (kC BK169.out 4).trans rfl
      have hcz17_5 : wc.cell? ⟨gb169, 5, none⟩ = some (.bool a0_5) := (kC BK169.out 5).trans rfl
      have hfz17_0 := kF BK169.out 0
      have hfz17_1 := kF BK169.out 1
      have hfz17_2 := kF BK169.out 2
      have hfz17_3 := kF BK169.out 3
      have hfz17_4 := kF BK169.out 4
      have hfz17_5 := kF BK169.out 5
      go_wp2
      go_ret
      exact ⟨by first | rfl | (simp [errW_none, errW_some] <;> rfl) | (simp [*, errW_none, errW_some] <;> rfl), by repeat (first | (with_reducible first | exact HB.out | apply kL | apply kM | apply kE | refine kS ?_ GE169.out) | exact HB.out)⟩
     ·rw [if_neg c16] at H
      have c16b0 : decide (1073741824 < a0_0) = false := decide_eq_false c16
      clear c16
      obtain rfl := Option.some.inj H
      have hcz18_0 : wc.cell? ⟨gb169, 0, none⟩ = some (.int .i64 a0_0) := (kC BK169.out 0).trans rfl
      have hcz18_1 : wc.cell? ⟨gb169, 1, none⟩ = some (.int .u8 a0_1) := (kC BK169.out 1).trans rfl
      have hcz18_2 : wc.cell? ⟨gb169, 2, none⟩ = some (.int .i64 a0_2) := (kC BK169.out 2).trans rfl
      have hcz18_3 : wc.cell? ⟨gb169, 3, none⟩ = some (.int .i64 a0_3) := (kC BK169.out 3).trans rfl
      have hcz18_4 : wc.cell? ⟨gb169, 4, none⟩ = some (.bool a0_4) := (kC BK169.out 4).trans rfl
      have hcz18_5 : wc.cell? ⟨gb169, 5, none⟩ = some (.bool a0_5) := (kC BK169.out 5).trans rfl
      have hfz18_0 := kF BK169.out 0
      have hfz18_1 := kF BK169.out 1
      have hfz18_2 := kF BK169.out 2
      have hfz18_3 := kF BK169.out 3
      have hfz18_4 := kF BK169.out 4
      have hfz18_5 := kF BK169.out 5
      go_wp2
      go_ret
      exact ⟨by first | rfl | (simp [errW_none, errW_some] <;> rfl) | (simp [*, errW_none, errW_some] <;> rfl), by repeat (first | (with_reducible first | exact HB.out | apply kL | apply kM | apply kE | refine kS ?_ GE169.out) | exact HB.out)⟩

end Go.Proofs.Ytbjelaocihjhgaa.PA
