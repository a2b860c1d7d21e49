-- printed by this workplace: wip/patchprint.py over the kit's print
import Derived.Test.YtifefhdinnechaaDoorPAx0
import Derived.Test.YtifefhdinnechaaDoorPAx2
import Derived.Test.YtifefhdinnechaaDoorPAx5
import Derived.Test.YtifefhdinnechaaDoorPAx7
namespace Go.Proofs.YtifefhdinnechaaDoor.PA
open Go.RowKit Go.Proofs.YtifefhdinnechaaDoorW.PrintWords Go.Proofs.YtifefhdinnechaaDoorW.PrintLast Go.Proofs.YtifefhdinnechaaDoorW.PrintMore
attribute [local go_sem] max2_int min2_int max_two min_two max_three min_three max_four min_four   -- for this text's walks alone
set_option linter.unusedVariables false
set_option linter.unusedSimpArgs false

/-! ### paybooklaw06_SealRows: function 4 -/
mutual
def paybooklaw06_SealRows.j0 : Nat → Int → List (List Int) → Int → Bool → Option (Bool)
 | 0, _, _, _, _ => none
 | k + 1, x0, x1, x2, x22 => if x22 = true then ((paybooklaw06_awake.f k).bind fun t288 => (some t288)) else (paybooklaw06_SealRows.l0 k x0 x1 x2 ([] : List Int) ([] : List Int) 0)
def paybooklaw06_SealRows.l0 : Nat → Int → List (List Int) → Int → List Int → List Int → Int → Option (Bool)
 | 0, _, _, _, _, _, _ => none
 | k + 1, x0, x1, x2, x7, x8, x9 => if x9 < (x1.length : Int) then (if 0 ≤ x9 then (if ((rd_L1 x1 x9).length : Int) > 60 then (some true) else ((paybookref05_Close.f k x0 ((x9) % 4294967296) (rd_L1 x1 x9)).bind fun t291 => (if x7.length + t291.length < 140737488355328 then ((some (x7 ++ t291 : List Int)).bind fun y294 => (if x8.length < 17592186044416 then (paybooklaw06_SealRows.l0 k x0 x1 x2 y294 (x8 ++ [(y294.length : Int)]) (wrap64 (x9 + 1))) else (none))) else (none)))) else (none)) else (if (wrap64 ((x7.length : Int) + 1)) = 0 then (none) else (paybooklaw06_SealRows.l1 k x0 x1 x7 x8 (Int.tmod (wrap64 (x2)) (wrap64 ((x7.length : Int) + 1))) 0 0))
def paybooklaw06_SealRows.l1 : Nat → Int → List (List Int) → List Int → List Int → Int → Int → Int → Option (Bool)
 | 0, _, _, _, _, _, _, _ => none
 | k + 1, x0, x1, x7, x8, x10, x11, x12 => if x12 < (x1.length : Int) then (if 0 ≤ x11 then (if x11 ≤ x10 then (if x10 ≤ (x7.length : Int) then ((seal_Open.f k x0 ((x12) % 4294967296) ((x7.take (x10 : Int).toNat).drop (x11 : Int).toNat)).bind fun bt304 => (if 0 ≤ x12 then (if x12 < (x8.length : Int) then (if (rd x8 x12) > x10 then (if bt304.2.2 = 5 then (if (bt304.1.length : Int) = 0 then (some (bt304.2.1 == 0)) else (some false)) else (some false)) else (if bt304.2.2 = 0 then (if (strOfNums bt304.1).toList = (strOfNums (rd_L1 x1 x12)).toList then (if (wrap64 (x11 + bt304.2.1)) = (rd x8 x12) then (paybooklaw06_SealRows.l1 k x0 x1 x7 x8 x10 (wrap64 (x11 + bt304.2.1)) (wrap64 (x12 + 1))) else (some false)) else (some false)) else (some false))) else (none)) else (none))) else (none)) else (none)) else (none)) else (some (x11 == (x7.length : Int)))
end
def paybooklaw06_SealRows.f (k : Nat) (a0 : Int) (l1 : List (List Int)) (a2 : Int) : Option (Bool) := (paybooklaw06_awake.f k).bind fun t287 => (if t287 = true then (paybooklaw06_SealRows.j0 k a0 l1 a2 (decide ((l1.length : Int) > 10))) else (paybooklaw06_SealRows.j0 k a0 l1 a2 true))
theorem paybooklaw06_SealRows.mono_l : ∀ k, (∀ y0 y1 y2 y3, LeO (paybooklaw06_SealRows.j0 k y0 y1 y2 y3) (paybooklaw06_SealRows.j0 (k + 1) y0 y1 y2 y3)) ∧ (∀ y0 y1 y2 y3 y4 y5, LeO (paybooklaw06_SealRows.l0 k y0 y1 y2 y3 y4 y5) (paybooklaw06_SealRows.l0 (k + 1) y0 y1 y2 y3 y4 y5)) ∧ (∀ y0 y1 y2 y3 y4 y5 y6, LeO (paybooklaw06_SealRows.l1 k y0 y1 y2 y3 y4 y5 y6) (paybooklaw06_SealRows.l1 (k + 1) y0 y1 y2 y3 y4 y5 y6))
 | 0 => ⟨fun _ _ _ _ r h => by simp [paybooklaw06_SealRows.j0] at h, fun _ _ _ _ _ _ r h => by simp [paybooklaw06_SealRows.l0] at h, fun _ _ _ _ _ _ _ r h => by simp [paybooklaw06_SealRows.l1] at h⟩
 | k + 1 => by
  obtain ⟨ih0, ih1, ih2⟩ := paybooklaw06_SealRows.mono_l k
  refine ⟨?_, ?_, ?_⟩
  ·intro y0 y1 y2 y3
   unfold paybooklaw06_SealRows.j0
   repeat' first
   | (with_reducible exact ih0 _ _ _ _)
   | (with_reducible exact ih1 _ _ _ _ _ _)
   | (with_reducible exact ih2 _ _ _ _ _ _ _)
   | (with_reducible exact paybooklaw06_awake.mono _)
   | (with_reducible exact paybookref05_Close.mono _ _ _ _)
   | (with_reducible exact seal_Open.mono _ _ _ _)
   | (with_reducible exact LeO.refl _)
   | (with_reducible exact LeO.none _)
   | (with_reducible refine LeO.ite ?_ ?_)
   | (with_reducible refine LeO.bind ?_ (fun _ => ?_))
   | exact ih0 _ _ _ _
   | exact ih1 _ _ _ _ _ _
   | exact ih2 _ _ _ _ _ _ _
   | exact paybooklaw06_awake.mono _
   | exact paybookref05_Close.mono _ _ _ _
   | exact seal_Open.mono _ _ _ _
   | exact LeO.none _
   | refine LeO.ite ?_ ?_
   | refine LeO.bind ?_ (fun _ => ?_)
  ·intro y0 y1 y2 y3 y4 y5
   unfold paybooklaw06_SealRows.l0
   repeat' first
   | (with_reducible exact ih0 _ _ _ _)
   | (with_reducible exact ih1 _ _ _ _ _ _)
   | (with_reducible exact ih2 _ _ _ _ _ _ _)
   | (with_reducible exact paybooklaw06_awake.mono _)
   | (with_reducible exact paybookref05_Close.mono _ _ _ _)
   | (with_reducible exact seal_Open.mono _ _ _ _)
   | (with_reducible exact LeO.refl _)
   | (with_reducible exact LeO.none _)
   | (with_reducible refine LeO.ite ?_ ?_)
   | (with_reducible refine LeO.bind ?_ (fun _ => ?_))
   | exact ih0 _ _ _ _
   | exact ih1 _ _ _ _ _ _
   | exact ih2 _ _ _ _ _ _ _
   | exact paybooklaw06_awake.mono _
   | exact paybookref05_Close.mono _ _ _ _
   | exact seal_Open.mono _ _ _ _
   | exact LeO.none _
   | refine LeO.ite ?_ ?_
   | refine LeO.bind ?_ (fun _ => ?_)
  ·intro y0 y1 y2 y3 y4 y5 y6
   unfold paybooklaw06_SealRows.l1
   repeat' first
   | (with_reducible exact ih0 _ _ _ _)
   | (with_reducible exact ih1 _ _ _ _ _ _)
   | (with_reducible exact ih2 _ _ _ _ _ _ _)
   | (with_reducible exact paybooklaw06_awake.mono _)
   | (with_reducible exact paybookref05_Close.mono _ _ _ _)
   | (with_reducible exact seal_Open.mono _ _ _ _)
   | (with_reducible exact LeO.refl _)
   | (with_reducible exact LeO.none _)
   | (with_reducible refine LeO.ite ?_ ?_)
   | (with_reducible refine LeO.bind ?_ (fun _ => ?_))
   | exact ih0 _ _ _ _
   | exact ih1 _ _ _ _ _ _
   | exact ih2 _ _ _ _ _ _ _
   | exact paybooklaw06_awake.mono _
   | exact paybookref05_Close.mono _ _ _ _
   | exact seal_Open.mono _ _ _ _
   | exact LeO.none _
   | refine LeO.ite ?_ ?_
   | refine LeO.bind ?_ (fun _ => ?_)
theorem paybooklaw06_SealRows.mono : ∀ a0 a1 a2 k, LeO (paybooklaw06_SealRows.f k a0 a1 a2) (paybooklaw06_SealRows.f (k + 1) a0 a1 a2) := by
 intro a0 a1 a2 k
 obtain ⟨ih0, ih1, ih2⟩ := paybooklaw06_SealRows.mono_l k
 unfold paybooklaw06_SealRows.f
 repeat' first
   | (with_reducible exact ih0 _ _ _ _)
   | (with_reducible exact ih1 _ _ _ _ _ _)
   | (with_reducible exact ih2 _ _ _ _ _ _ _)
   | (with_reducible exact paybooklaw06_awake.mono _)
   | (with_reducible exact paybookref05_Close.mono _ _ _ _)
   | (with_reducible exact seal_Open.mono _ _ _ _)
   | (with_reducible exact LeO.refl _)
   | (with_reducible exact LeO.none _)
   | (with_reducible refine LeO.ite ?_ ?_)
   | (with_reducible refine LeO.bind ?_ (fun _ => ?_))
   | exact ih0 _ _ _ _
   | exact ih1 _ _ _ _ _ _
   | exact ih2 _ _ _ _ _ _ _
   | exact paybooklaw06_awake.mono _
   | exact paybookref05_Close.mono _ _ _ _
   | exact seal_Open.mono _ _ _ _
   | exact LeO.none _
   | refine LeO.ite ?_ ?_
   | refine LeO.bind ?_ (fun _ => ?_)
set_option maxHeartbeats 40000000 in
set_option maxRecDepth 100000 in
theorem paybooklaw06_SealRows.calls (k : Nat) (a0 : Int) (A1 : Option Addr) (c1 : Nat) (l1 : List (List Int)) (a2 : Int) (w : World) (hr1 : Kd.C (Kd.slice 5 (Kd.int .u8)) w A1 l1.length l1) (hc1 : l1.length ≤ c1) (hrG0 : Kd.C (Kd.int .u32) w (some ⟨0, 0, none⟩) 16 gl0) (h : paybooklaw06_SealRows.f k a0 l1 a2 = some true) :
  Calls Tryd.prog 4 #[.int .u32 a0, .slice A1 l1.length c1, .int .u16 a2] w fun e w' => e = .returned (.bool true) ∧ Below w.heap.size w w' := by
 have HR1 := Aside0.mk hr1
 have HC1 := Aside0.mk hc1
 clear hr1 hc1
 have HRG0 := Aside0.mk hrG0
 clear hrG0
 have HB := Aside0.mk (Below.refl w.heap.size w)
 have H : ((paybooklaw06_awake.f k).bind fun t287 => (if t287 = true then (paybooklaw06_SealRows.j0 k a0 l1 a2 (decide ((l1.length : Int) > 10))) else (paybooklaw06_SealRows.j0 k a0 l1 a2 true))) = some true := h
 clear h
 have HC4 := Aside0.mk H
 clear H
 go_enter Tryd.func4, Tryd.ntmps4
 go_upto_region 1 with (fail)
 repeat (go_quiet (fail); go_upto_region 1 with (fail))
 go_cut [22] (fun v22 wc => ∃ (kq : Nat) (x22_3 : Bool), v22 = .bool x22_3 ∧ Aside0 (paybooklaw06_SealRows.j0 kq a0 l1 a2 x22_3 = some true) ∧ Aside0 (kq ≤ k) ∧ Aside0 (Below w.heap.size w wc))
 case first =>
  have H := HC4.out
  clear HC4
  replace H := Option.bind_eq_some_iff.mp H
  obtain ⟨t287, A50, H⟩ := H
  replace H : (if t287 = true then (paybooklaw06_SealRows.j0 k a0 l1 a2 (decide ((l1.length : Int) > 10))) else (paybooklaw06_SealRows.j0 k a0 l1 a2 true)) = some true := H
  have A5 := Aside0.mk A50
  clear A50
  by_cases c6 : t287 = true
  ·subst c6
   have H1 : (paybooklaw06_SealRows.j0 k a0 l1 a2 (decide ((l1.length : Int) > 10))) = some true := by rw [if_pos rfl] at H; try exact H
   clear H
   have H := H1
   clear H1
   have H' := Aside0.mk H
   clear H
   go_wp2_with (first | (go_at_call 8; (with_reducible refine (paybooklaw06_awake.calls k  true _ ?side1 A5.out).mono ?_); (case side1 => repeat (first | exact (Kd.C_below HRG0.out HB.out) | exact HRG0.out | (with_reducible refine Kd.C_alloc ?_ _) | (with_reducible refine Kd.C_drewN ?_ _) | (with_reducible refine Kd.C_drew ?_))); rintro e w7 ⟨rfl, hb⟩; have n0_ := Aside0.mk (below_step (by repeat (first | (with_reducible first | exact HB.out | apply kL | apply kM | apply kE) | exact HB.out)) hb); clear HB; have HB := n0_; clear n0_; (try clear hb); (try clear hb2); (try clear hk); (try clear hi)))
   repeat (go_quiet (first | (go_at_call 8; (with_reducible refine (paybooklaw06_awake.calls k  true _ ?side1 A5.out).mono ?_); (case side1 => repeat (first | exact (Kd.C_below HRG0.out HB.out) | exact HRG0.out | (with_reducible refine Kd.C_alloc ?_ _) | (with_reducible refine Kd.C_drewN ?_ _) | (with_reducible refine Kd.C_drew ?_))); rintro e w7 ⟨rfl, hb⟩; have n0_ := Aside0.mk (below_step (by repeat (first | (with_reducible first | exact HB.out | apply kL | apply kM | apply kE) | exact HB.out)) hb); clear HB; have HB := n0_; clear n0_; (try clear hb); (try clear hb2); (try clear hk); (try clear hi))); try go_wp2_with (first | (go_at_call 8; (with_reducible refine (paybooklaw06_awake.calls k  true _ ?side1 A5.out).mono ?_); (case side1 => repeat (first | exact (Kd.C_below HRG0.out HB.out) | exact HRG0.out | (with_reducible refine Kd.C_alloc ?_ _) | (with_reducible refine Kd.C_drewN ?_ _) | (with_reducible refine Kd.C_drew ?_))); rintro e w7 ⟨rfl, hb⟩; have n0_ := Aside0.mk (below_step (by repeat (first | (with_reducible first | exact HB.out | apply kL | apply kM | apply kE) | exact HB.out)) hb); clear HB; have HB := n0_; clear n0_; (try clear hb); (try clear hb2); (try clear hk); (try clear hi))))
   go_meet
   case rel => exact ⟨_, (decide ((l1.length : Int) > 10)), (by first | rfl | (simp; done) | (simp [*]; done)), (by first | (with_reducible exact H') | (simp only [*]; with_reducible exact H') | exact H'), ⟨by first | omega | exact Nat.le_refl _⟩, ⟨by repeat (first | (with_reducible first | exact HB.out | apply kL | apply kM | apply kE) | exact HB.out)⟩⟩
  ·replace c6 := Bool.eq_false_iff.mpr c6
   subst c6
   have H1 : (paybooklaw06_SealRows.j0 k a0 l1 a2 true) = some true := by rw [if_neg (show ¬ (false = true) by decide)] at H; try exact H
   clear H
   have H := H1
   clear H1
   have H' := Aside0.mk H
   clear H
   go_wp2_with (first | (go_at_call 8; (with_reducible refine (paybooklaw06_awake.calls k  false _ ?side1 A5.out).mono ?_); (case side1 => repeat (first | exact (Kd.C_below HRG0.out HB.out) | exact HRG0.out | (with_reducible refine Kd.C_alloc ?_ _) | (with_reducible refine Kd.C_drewN ?_ _) | (with_reducible refine Kd.C_drew ?_))); rintro e w8 ⟨rfl, hb⟩; have n0_ := Aside0.mk (below_step (by repeat (first | (with_reducible first | exact HB.out | apply kL | apply kM | apply kE) | exact HB.out)) hb); clear HB; have HB := n0_; clear n0_; (try clear hb); (try clear hb2); (try clear hk); (try clear hi)))
   repeat (go_quiet (first | (go_at_call 8; (with_reducible refine (paybooklaw06_awake.calls k  false _ ?side1 A5.out).mono ?_); (case side1 => repeat (first | exact (Kd.C_below HRG0.out HB.out) | exact HRG0.out | (with_reducible refine Kd.C_alloc ?_ _) | (with_reducible refine Kd.C_drewN ?_ _) | (with_reducible refine Kd.C_drew ?_))); rintro e w8 ⟨rfl, hb⟩; have n0_ := Aside0.mk (below_step (by repeat (first | (with_reducible first | exact HB.out | apply kL | apply kM | apply kE) | exact HB.out)) hb); clear HB; have HB := n0_; clear n0_; (try clear hb); (try clear hb2); (try clear hk); (try clear hi))); try go_wp2_with (first | (go_at_call 8; (with_reducible refine (paybooklaw06_awake.calls k  false _ ?side1 A5.out).mono ?_); (case side1 => repeat (first | exact (Kd.C_below HRG0.out HB.out) | exact HRG0.out | (with_reducible refine Kd.C_alloc ?_ _) | (with_reducible refine Kd.C_drewN ?_ _) | (with_reducible refine Kd.C_drew ?_))); rintro e w8 ⟨rfl, hb⟩; have n0_ := Aside0.mk (below_step (by repeat (first | (with_reducible first | exact HB.out | apply kL | apply kM | apply kE) | exact HB.out)) hb); clear HB; have HB := n0_; clear n0_; (try clear hb); (try clear hb2); (try clear hk); (try clear hi))))
   go_meet
   case rel => exact ⟨_, (true), (by first | rfl | (simp; done) | (simp [*]; done)), (by first | (with_reducible exact H') | (simp only [*]; with_reducible exact H') | exact H'), ⟨by first | omega | exact Nat.le_refl _⟩, ⟨by repeat (first | (with_reducible first | exact HB.out | apply kL | apply kM | apply kE) | exact HB.out)⟩⟩
 case rest =>
  clear HC4
  try clear c1
  try clear p2
  try clear c4
  try clear c6
  obtain ⟨kq, x22_3, rfl, HA, HJ3, HB⟩ := hcut
  cases kq with
  | zero => exact absurd HA.out (by simp [paybooklaw06_SealRows.j0])
  | succ kj3 =>
   have H := HA.out
   clear HA
   simp only [paybooklaw06_SealRows.j0] at H
   by_cases c9 : x22_3 = true
   ·subst c9
    have H1 : ((paybooklaw06_awake.f kj3).bind fun t288 => (some t288)) = some true := by rw [if_pos rfl] at H; try exact H
    clear H
    have H := H1
    clear H1
    replace H := Option.bind_eq_some_iff.mp H
    obtain ⟨t288, A100, H⟩ := H
    replace H : (some t288) = some true := H
    have A10 := Aside0.mk A100
    clear A100
    have HT_ := Option.some.inj H
    clear H
    (try (have HT_z_ := HT_; simp only [beq_true, beq_false, true_beq, false_beq, Bool.not_eq_true', Bool.not_eq_false', Bool.not_true, Bool.not_false] at HT_z_))
    go_wp2_with (first | (go_at_call 8; (with_reducible refine (paybooklaw06_awake.calls kj3  t288 _ ?side1 A10.out).mono ?_); (case side1 => repeat (first | exact (Kd.C_below HRG0.out HB.out) | exact HRG0.out | (with_reducible refine Kd.C_alloc ?_ _) | (with_reducible refine Kd.C_drewN ?_ _) | (with_reducible refine Kd.C_drew ?_))); rintro e w11 ⟨rfl, hb⟩; have n0_ := Aside0.mk (below_step (by repeat (first | (with_reducible first | exact HB.out | apply kL | apply kM | apply kE) | exact HB.out)) hb); clear HB; have HB := n0_; clear n0_; (try clear hb); (try clear hb2); (try clear hk); (try clear hi)))
    repeat (go_quiet (first | (go_at_call 8; (with_reducible refine (paybooklaw06_awake.calls kj3  t288 _ ?side1 A10.out).mono ?_); (case side1 => repeat (first | exact (Kd.C_below HRG0.out HB.out) | exact HRG0.out | (with_reducible refine Kd.C_alloc ?_ _) | (with_reducible refine Kd.C_drewN ?_ _) | (with_reducible refine Kd.C_drew ?_))); rintro e w11 ⟨rfl, hb⟩; have n0_ := Aside0.mk (below_step (by repeat (first | (with_reducible first | exact HB.out | apply kL | apply kM | apply kE) | exact HB.out)) hb); clear HB; have HB := n0_; clear n0_; (try clear hb); (try clear hb2); (try clear hk); (try clear hi))); try go_wp2_with (first | (go_at_call 8; (with_reducible refine (paybooklaw06_awake.calls kj3  t288 _ ?side1 A10.out).mono ?_); (case side1 => repeat (first | exact (Kd.C_below HRG0.out HB.out) | exact HRG0.out | (with_reducible refine Kd.C_alloc ?_ _) | (with_reducible refine Kd.C_drewN ?_ _) | (with_reducible refine Kd.C_drew ?_))); rintro e w11 ⟨rfl, hb⟩; have n0_ := Aside0.mk (below_step (by repeat (first | (with_reducible first | exact HB.out | apply kL | apply kM | apply kE) | exact HB.out)) hb); clear HB; have HB := n0_; clear n0_; (try clear hb); (try clear hb2); (try clear hk); (try clear hi))))
    go_ret
    exact ⟨by first | rfl | (simp [errW_none, errW_some] <;> rfl) | (simp [*, errW_none, errW_some] <;> rfl), by repeat (first | (with_reducible first | exact HB.out | apply kL | apply kM | apply kE) | exact HB.out)⟩
   ·replace c9 := Bool.eq_false_iff.mpr c9
    subst c9
    have H1 : (paybooklaw06_SealRows.l0 kj3 a0 l1 a2 ([] : List Int) ([] : List Int) 0) = some true := by rw [if_neg (show ¬ (false = true) by decide)] at H; try exact H
    clear H
    have H := H1
    clear H1
    have H' := Aside0.mk H
    clear H
    go_wp2
    repeat (go_quiet (fail); try go_wp2)
    go_loopg [7, 8, 9] kj3 (fun kq v7 v8 v9 w' => ∃ (x7_2 : List Int) (x8_2 : List Int) (x9_2 : Int), v9 = .int .i64 x9_2 ∧ Aside0 (paybooklaw06_SealRows.l0 kq a0 l1 a2 x7_2 x8_2 x9_2 = some true) ∧ Aside0 (kq ≤ kj3) ∧ Aside0 (Kd.R (Kd.int .u8) 5 w' w.heap.size (fun _ => True) v7 x7_2) ∧ Aside0 (Kd.R (Kd.int .i64) 3 w' w.heap.size (fun _ => True) v8 x8_2) ∧ Aside0 (Below w.heap.size w w'))
    case atStart => exact ⟨(([] : List Int)), (([] : List Int)), (0), (by first | rfl | (simp; done) | (simp [*]; done)), H', ⟨Nat.le_refl _⟩, ⟨by first | exact Kd.R_nil _ _ _ _ _ | exact Kd.N_nil _ _ _ _ _ | exact Kd.V_nil _ _ _ _ _ | exact Kd.Q_nil _ _ _ _ _ | exact Kd.S_nil _ _ _ _ _⟩, ⟨by first | exact Kd.R_nil _ _ _ _ _ | exact Kd.N_nil _ _ _ _ _ | exact Kd.V_nil _ _ _ _ _ | exact Kd.Q_nil _ _ _ _ _ | exact Kd.S_nil _ _ _ _ _⟩, ⟨by repeat (first | (with_reducible first | exact HB.out | apply kL | apply kM | apply kE) | exact HB.out)⟩⟩
    case round =>
     clear H'
     try clear c1
     try clear p2
     try clear c4
     try clear c6
     try clear c9
     try clear p2
     obtain ⟨x7_2, x8_2, x9_2, rfl, HA, HK2, HO_7, HO_8, HB⟩ := hrel
     cases gk with
     | zero => exact absurd HA.out (by simp [paybooklaw06_SealRows.l0])
     | succ k2 =>
      have H := HA.out
      clear HA
      simp only [paybooklaw06_SealRows.l0] at H
      by_cases c12 : x9_2 < (l1.length : Int)
      ·rw [if_pos c12] at H
       have c12b0 : decide (x9_2 < (l1.length : Int)) = true := decide_eq_true c12
       clear c12
       by_cases c13 : 0 ≤ x9_2
       ·rw [if_pos c13] at H
        have c13b0 : decide (0 ≤ x9_2) = true := decide_eq_true c13
        clear c13
        by_cases c14 : ((rd_L1 l1 x9_2).length : Int) > 60
        ·rw [if_pos c14] at H
         have c14b0 : decide (60 < ((rd_L1 l1 x9_2).length : Int)) = true := decide_eq_true c14
         have c14b1 : decide (60 < (rd_L1 l1 x9_2).length) = true := decide_eq_true (by omega)
         clear c14
         clear H
         have p289 : 0 ≤ (x9_2 : Int) := of_decide_eq_true (by first | (with_reducible assumption) | assumption)
         have q289 : x9_2 < (l1.length : Int) := of_decide_eq_true (by first | (with_reducible assumption) | assumption)
         obtain ⟨ad289, A289_0, c289_0, e289, hx289_0, hl289_0, hi289_0⟩ := at_L1 HR1.out x9_2 p289 q289
         cases e289
         replace hx289_0 := (HB.out.cell (World.block_lt_of_cell? w _ hx289_0)).trans hx289_0
         have HR289_0 := Aside0.mk hi289_0
         have HC289_0 := Aside0.mk hl289_0
         clear hi289_0 hl289_0
         replace p289 := eq_true p289
         replace q289 := eq_true q289
         go_wp2
         repeat (go_quiet (fail); try go_wp2)
         go_ret
         exact ⟨by first | rfl | (simp [errW_none, errW_some] <;> rfl) | (simp [*, errW_none, errW_some] <;> rfl), by repeat (first | (with_reducible first | exact HB.out | apply kL | apply kM | apply kE) | exact HB.out)⟩
        ·rw [if_neg c14] at H
         have c14b0 : decide (60 < ((rd_L1 l1 x9_2).length : Int)) = false := decide_eq_false c14
         have c14b1 : decide (60 < (rd_L1 l1 x9_2).length) = false := decide_eq_false (by omega)
         clear c14
         replace H := Option.bind_eq_some_iff.mp H
         obtain ⟨t291, A150, H⟩ := H
         replace H : (if x7_2.length + t291.length < 140737488355328 then ((some (x7_2 ++ t291 : List Int)).bind fun y294 => (if x8_2.length < 17592186044416 then (paybooklaw06_SealRows.l0 k2 a0 l1 a2 y294 (x8_2 ++ [(y294.length : Int)]) (wrap64 (x9_2 + 1))) else (none))) else (none)) = some true := H
         have A15 := Aside0.mk A150
         clear A150
         by_cases c16 : x7_2.length + t291.length < 140737488355328
         ·rw [if_pos c16] at H
          have LMc16 := Aside0.mk c16
          clear c16
          obtain ⟨y294, hy294⟩ : ∃ y_ : List Int, y_ = (x7_2 ++ t291) := ⟨_, rfl⟩
          replace H : (if x8_2.length < 17592186044416 then (paybooklaw06_SealRows.l0 k2 a0 l1 a2 y294 (x8_2 ++ [(y294.length : Int)]) (wrap64 (x9_2 + 1))) else (none)) = some true := by first | (rw [hy294]; with_reducible exact H) | (have H2_ := (Option.bind_some _ _).symm.trans H; rw [hy294]; with_reducible exact H2_) | (have H2_ := (Option.bind_some _ _).symm.trans H; with_reducible exact H2_) | with_reducible exact H | (rw [hy294]; exact H) | exact H
          have Ny294 := Aside0.mk hy294
          clear hy294
          by_cases c17 : x8_2.length < 17592186044416
          ·rw [if_pos c17] at H
           have LMc17 := Aside0.mk c17
           clear c17
           obtain ⟨y297, hy297⟩ : ∃ y_ : List Int, y_ = (x8_2 ++ [(y294.length : Int)]) := ⟨_, rfl⟩
           replace H : (paybooklaw06_SealRows.l0 k2 a0 l1 a2 y294 y297 (wrap64 (x9_2 + 1))) = some true := by first | (rw [hy297]; with_reducible exact H) | (have H2_ := (Option.bind_some _ _).symm.trans H; rw [hy297]; with_reducible exact H2_) | (have H2_ := (Option.bind_some _ _).symm.trans H; with_reducible exact H2_) | with_reducible exact H | (rw [hy297]; exact H) | exact H
           have Ny297 := Aside0.mk hy297
           clear hy297
           have H' := Aside0.mk H
           clear H
           have p289 : 0 ≤ (x9_2 : Int) := of_decide_eq_true (by first | (with_reducible assumption) | assumption)
           have q289 : x9_2 < (l1.length : Int) := of_decide_eq_true (by first | (with_reducible assumption) | assumption)
           obtain ⟨ad289, A289_0, c289_0, e289, hx289_0, hl289_0, hi289_0⟩ := at_L1 HR1.out x9_2 p289 q289
           cases e289
           replace hx289_0 := (HB.out.cell (World.block_lt_of_cell? w _ hx289_0)).trans hx289_0
           have HR289_0 := Aside0.mk hi289_0
           have HC289_0 := Aside0.mk hl289_0
           clear hi289_0 hl289_0
           replace p289 := eq_true p289
           replace q289 := eq_true q289
           have p290 : 0 ≤ (x9_2 : Int) := of_decide_eq_true (by first | (with_reducible assumption) | assumption)
           have q290 : x9_2 < (l1.length : Int) := of_decide_eq_true (by first | (with_reducible assumption) | assumption)
           obtain ⟨ad290, A290_0, c290_0, e290, hx290_0, hl290_0, hi290_0⟩ := at_L1 HR1.out x9_2 p290 q290
           obtain rfl : ad289 = ad290 := (by injection e290)
           replace hx290_0 := (HB.out.cell (World.block_lt_of_cell? w _ hx290_0)).trans hx290_0
           have HR290_0 := Aside0.mk hi290_0
           have HC290_0 := Aside0.mk hl290_0
           clear hi290_0 hl290_0
           replace p290 := eq_true p290
           replace q290 := eq_true q290
           have ea_ := Option.some.inj (hx289_0.symm.trans hx290_0)
           injection ea_ with ea_ en_ ec_
           subst ea_
           subst ec_
           clear en_
           go_wp2_with (first | (go_at_call 11; (with_reducible refine (paybookref05_Close.calls k2 a0 ((x9_2) % 4294967296) _ _ (rd_L1 l1 x9_2) t291 _ ?side1 ?side2 A15.out).mono ?_); (case side1 => repeat (first | exact (Kd.C_below HR290_0.out HB.out) | exact HR290_0.out | (with_reducible refine Kd.C_alloc ?_ _) | (with_reducible refine Kd.C_drewN ?_ _) | (with_reducible refine Kd.C_drew ?_))); (case side2 => exact HC290_0.out); rintro e w18 ⟨v292, rfl, ho0, hb⟩; have n0_ := Aside0.mk (Kd.R_elder' (by (with_reducible repeat (first | apply Kd.R_alloc | apply Kd.R_drewN | apply Kd.R_drew)); exact HO_7.out) (Kd.R_base ho0) hb); have n1_ := Aside0.mk (Kd.R_below (by (with_reducible repeat (first | apply Kd.R_alloc | apply Kd.R_drewN | apply Kd.R_drew)); exact HO_8.out) hb); have n2_ := Aside0.mk (Kd.R_lower (Kd.R_new' ho0 (Kd.R_lt (by (with_reducible repeat (first | apply Kd.R_alloc | apply Kd.R_drewN | apply Kd.R_drew)); exact HO_7.out))) (below_size (by repeat (first | (with_reducible first | exact HB.out | apply kL | apply kM | apply kE) | exact HB.out)))); have n3_ := Aside0.mk (below_step (by repeat (first | (with_reducible first | exact HB.out | apply kL | apply kM | apply kE) | exact HB.out)) hb); clear HO_7; clear HO_8; clear HB; have HO_7 := n0_; have HO_8 := n1_; have HO293 := n2_; have HB := n3_; clear n0_ n1_ n2_ n3_; (try clear hb); (try clear hb2); (try clear hk); (try clear hi); (try clear ho0); obtain ⟨Ao20, co20, eo20⟩ := Kd.R_slice HO293.out; subst eo20) | ((with_reducible refine gate_builtin (b := .append) (xs := #[.tmp 36, .tmp 44]) rfl ?_); (try (refine gate_guard (by rfl) ?_; dsimp only)); at_builtin; refine Kd.R_append_rows (Kd.int .u8) (w0 := w) w.heap.size rfl (.tmp 36) (.tmp 44) 22 5 (.int .u8 0) 1 rfl Tryd.underlying22 info5 rfl (by decide) (by omega) u7 x7_2 t291 _ _ _ (fun k_ => some k_ ≠ (.slice Ao20 t291.length co20 : Value).ownBlock) (fun _ => False) rfl rfl ?aO ?aR (fun _ _ h => h) (fun _ h => h.elim) ?aF ?aB ?aS ?aL ?_; (case aR => repeat (first | exact (Kd.R_reads' HO293.out).2.2 | (with_reducible refine Kd.C_alloc ?_ _) | (with_reducible refine Kd.C_drewN ?_ _) | (with_reducible refine Kd.C_drew ?_))); (case aB => exact (by repeat (first | (with_reducible first | exact HB.out | apply kL | apply kM | apply kE) | exact HB.out))); (case aF => exact (fun k_ hk => Kd.fresh' (Kd.R_lt (by (with_reducible repeat (first | apply Kd.R_alloc | apply Kd.R_drewN | apply Kd.R_drew)); exact HO293.out)) k_ hk)); (case aO => exact (by (with_reducible repeat (first | apply Kd.R_alloc | apply Kd.R_drewN | apply Kd.R_drew)); exact Kd.R_mono HO_7.out (fun _ hk => hk.2))); (case aS => exact (below_size (by repeat (first | (with_reducible first | exact HB.out | apply kL | apply kM | apply kE) | exact HB.out)))); (case aL => have := LMc16.out; omega); intro v295 w19 ho hb hg hat; rw [← Ny294.out] at ho; have n0_ := Aside0.mk (Kd.R_over' (by (with_reducible repeat (first | apply Kd.R_alloc | apply Kd.R_drewN | apply Kd.R_drew)); exact HO_8.out) (Kd.R_typed (by (with_reducible repeat (first | apply Kd.R_alloc | apply Kd.R_drewN | apply Kd.R_drew)); exact HO_7.out)) (by decide) hg); have n1_ := Aside0.mk (Kd.R_after (ok := (fun _ => True)) (by (with_reducible repeat (first | apply Kd.R_alloc | apply Kd.R_drewN | apply Kd.R_drew)); exact HO293.out) hg hat); have n2_ := Aside0.mk (hb); have n3_ := Aside0.mk (ho); clear HO_8; clear HO293; clear HB; clear HO_7; have HO_8 := n0_; have HO293 := n1_; have HB := n2_; have HO296 := n3_; clear n0_ n1_ n2_ n3_; clear ho hb hg hat; obtain ⟨Ao21, co21, eo21⟩ := Kd.R_slice HO296.out; subst eo21) | ((with_reducible refine gate_builtin (b := .append) (xs := #[.tmp 46, .tmp 49]) rfl ?_); (try (refine gate_guard (by rfl) ?_; dsimp only)); at_builtin; refine Kd.R_append (Kd.int .i64) (w0 := w) w.heap.size rfl (.tmp 46) (.tmp 49) 29 3 (.int .i64 0) 8 rfl Tryd.underlying29 info3 rfl (by decide) (by omega) u8 x8_2 (y294.length : Int) [.int .i64 (y294.length : Int)] (fun _ => True) (fun _ => False) rfl rfl ?aP (fun _ hk => hk.elim) ?aF ?aO ?aB ?aS ?aL ?_; (case aP => exact rfl); (case aB => exact (by repeat (first | (with_reducible first | exact HB.out | apply kL | apply kM | apply kE) | exact HB.out))); (case aF => exact (fun _ _ => trivial)); (case aO => exact (by (with_reducible repeat (first | apply Kd.R_alloc | apply Kd.R_drewN | apply Kd.R_drew)); exact HO_8.out)); (case aS => exact (below_size (by repeat (first | (with_reducible first | exact HB.out | apply kL | apply kM | apply kE) | exact HB.out)))); (case aL => have := LMc17.out; omega); intro v298 w22 ho hb hg hat; rw [← Ny297.out] at ho; have n0_ := Aside0.mk (Kd.R_over' (by (with_reducible repeat (first | apply Kd.R_alloc | apply Kd.R_drewN | apply Kd.R_drew)); exact HO293.out) (Kd.R_typed (by (with_reducible repeat (first | apply Kd.R_alloc | apply Kd.R_drewN | apply Kd.R_drew)); exact HO_8.out)) (by decide) hg); have n1_ := Aside0.mk (Kd.R_over' (by (with_reducible repeat (first | apply Kd.R_alloc | apply Kd.R_drewN | apply Kd.R_drew)); exact HO296.out) (Kd.R_typed (by (with_reducible repeat (first | apply Kd.R_alloc | apply Kd.R_drewN | apply Kd.R_drew)); exact HO_8.out)) (by decide) hg); have n2_ := Aside0.mk (hb); have n3_ := Aside0.mk (ho); clear HO293; clear HO296; clear HB; clear HO_8; have HO293 := n0_; have HO296 := n1_; have HB := n2_; have HO299 := n3_; clear n0_ n1_ n2_ n3_; clear ho hb hg hat))
           repeat (go_quiet (first | (go_at_call 11; (with_reducible refine (paybookref05_Close.calls k2 a0 ((x9_2) % 4294967296) _ _ (rd_L1 l1 x9_2) t291 _ ?side1 ?side2 A15.out).mono ?_); (case side1 => repeat (first | exact (Kd.C_below HR290_0.out HB.out) | exact HR290_0.out | (with_reducible refine Kd.C_alloc ?_ _) | (with_reducible refine Kd.C_drewN ?_ _) | (with_reducible refine Kd.C_drew ?_))); (case side2 => exact HC290_0.out); rintro e w18 ⟨v292, rfl, ho0, hb⟩; have n0_ := Aside0.mk (Kd.R_elder' (by (with_reducible repeat (first | apply Kd.R_alloc | apply Kd.R_drewN | apply Kd.R_drew)); exact HO_7.out) (Kd.R_base ho0) hb); have n1_ := Aside0.mk (Kd.R_below (by (with_reducible repeat (first | apply Kd.R_alloc | apply Kd.R_drewN | apply Kd.R_drew)); exact HO_8.out) hb); have n2_ := Aside0.mk (Kd.R_lower (Kd.R_new' ho0 (Kd.R_lt (by (with_reducible repeat (first | apply Kd.R_alloc | apply Kd.R_drewN | apply Kd.R_drew)); exact HO_7.out))) (below_size (by repeat (first | (with_reducible first | exact HB.out | apply kL | apply kM | apply kE) | exact HB.out)))); have n3_ := Aside0.mk (below_step (by repeat (first | (with_reducible first | exact HB.out | apply kL | apply kM | apply kE) | exact HB.out)) hb); clear HO_7; clear HO_8; clear HB; have HO_7 := n0_; have HO_8 := n1_; have HO293 := n2_; have HB := n3_; clear n0_ n1_ n2_ n3_; (try clear hb); (try clear hb2); (try clear hk); (try clear hi); (try clear ho0); obtain ⟨Ao20, co20, eo20⟩ := Kd.R_slice HO293.out; subst eo20) | ((with_reducible refine gate_builtin (b := .append) (xs := #[.tmp 36, .tmp 44]) rfl ?_); (try (refine gate_guard (by rfl) ?_; dsimp only)); at_builtin; refine Kd.R_append_rows (Kd.int .u8) (w0 := w) w.heap.size rfl (.tmp 36) (.tmp 44) 22 5 (.int .u8 0) 1 rfl Tryd.underlying22 info5 rfl (by decide) (by omega) u7 x7_2 t291 _ _ _ (fun k_ => some k_ ≠ (.slice Ao20 t291.length co20 : Value).ownBlock) (fun _ => False) rfl rfl ?aO ?aR (fun _ _ h => h) (fun _ h => h.elim) ?aF ?aB ?aS ?aL ?_; (case aR => repeat (first | exact (Kd.R_reads' HO293.out).2.2 | (with_reducible refine Kd.C_alloc ?_ _) | (with_reducible refine Kd.C_drewN ?_ _) | (with_reducible refine Kd.C_drew ?_))); (case aB => exact (by repeat (first | (with_reducible first | exact HB.out | apply kL | apply kM | apply kE) | exact HB.out))); (case aF => exact (fun k_ hk => Kd.fresh' (Kd.R_lt (by (with_reducible repeat (first | apply Kd.R_alloc | apply Kd.R_drewN | apply Kd.R_drew)); exact HO293.out)) k_ hk)); (case aO => exact (by (with_reducible repeat (first | apply Kd.R_alloc | apply Kd.R_drewN | apply Kd.R_drew)); exact Kd.R_mono HO_7.out (fun _ hk => hk.2))); (case aS => exact (below_size (by repeat (first | (with_reducible first | exact HB.out | apply kL | apply kM | apply kE) | exact HB.out)))); (case aL => have := LMc16.out; omega); intro v295 w19 ho hb hg hat; rw [← Ny294.out] at ho; have n0_ := Aside0.mk (Kd.R_over' (by (with_reducible repeat (first | apply Kd.R_alloc | apply Kd.R_drewN | apply Kd.R_drew)); exact HO_8.out) (Kd.R_typed (by (with_reducible repeat (first | apply Kd.R_alloc | apply Kd.R_drewN | apply Kd.R_drew)); exact HO_7.out)) (by decide) hg); have n1_ := Aside0.mk (Kd.R_after (ok := (fun _ => True)) (by (with_reducible repeat (first | apply Kd.R_alloc | apply Kd.R_drewN | apply Kd.R_drew)); exact HO293.out) hg hat); have n2_ := Aside0.mk (hb); have n3_ := Aside0.mk (ho); clear HO_8; clear HO293; clear HB; clear HO_7; have HO_8 := n0_; have HO293 := n1_; have HB := n2_; have HO296 := n3_; clear n0_ n1_ n2_ n3_; clear ho hb hg hat; obtain ⟨Ao21, co21, eo21⟩ := Kd.R_slice HO296.out; subst eo21) | ((with_reducible refine gate_builtin (b := .append) (xs := #[.tmp 46, .tmp 49]) rfl ?_); (try (refine gate_guard (by rfl) ?_; dsimp only)); at_builtin; refine Kd.R_append (Kd.int .i64) (w0 := w) w.heap.size rfl (.tmp 46) (.tmp 49) 29 3 (.int .i64 0) 8 rfl Tryd.underlying29 info3 rfl (by decide) (by omega) u8 x8_2 (y294.length : Int) [.int .i64 (y294.length : Int)] (fun _ => True) (fun _ => False) rfl rfl ?aP (fun _ hk => hk.elim) ?aF ?aO ?aB ?aS ?aL ?_; (case aP => exact rfl); (case aB => exact (by repeat (first | (with_reducible first | exact HB.out | apply kL | apply kM | apply kE) | exact HB.out))); (case aF => exact (fun _ _ => trivial)); (case aO => exact (by (with_reducible repeat (first | apply Kd.R_alloc | apply Kd.R_drewN | apply Kd.R_drew)); exact HO_8.out)); (case aS => exact (below_size (by repeat (first | (with_reducible first | exact HB.out | apply kL | apply kM | apply kE) | exact HB.out)))); (case aL => have := LMc17.out; omega); intro v298 w22 ho hb hg hat; rw [← Ny297.out] at ho; have n0_ := Aside0.mk (Kd.R_over' (by (with_reducible repeat (first | apply Kd.R_alloc | apply Kd.R_drewN | apply Kd.R_drew)); exact HO293.out) (Kd.R_typed (by (with_reducible repeat (first | apply Kd.R_alloc | apply Kd.R_drewN | apply Kd.R_drew)); exact HO_8.out)) (by decide) hg); have n1_ := Aside0.mk (Kd.R_over' (by (with_reducible repeat (first | apply Kd.R_alloc | apply Kd.R_drewN | apply Kd.R_drew)); exact HO296.out) (Kd.R_typed (by (with_reducible repeat (first | apply Kd.R_alloc | apply Kd.R_drewN | apply Kd.R_drew)); exact HO_8.out)) (by decide) hg); have n2_ := Aside0.mk (hb); have n3_ := Aside0.mk (ho); clear HO293; clear HO296; clear HB; clear HO_8; have HO293 := n0_; have HO296 := n1_; have HB := n2_; have HO299 := n3_; clear n0_ n1_ n2_ n3_; clear ho hb hg hat)); try go_wp2_with (first | (go_at_call 11; (with_reducible refine (paybookref05_Close.calls k2 a0 ((x9_2) % 4294967296) _ _ (rd_L1 l1 x9_2) t291 _ ?side1 ?side2 A15.out).mono ?_); (case side1 => repeat (first | exact (Kd.C_below HR290_0.out HB.out) | exact HR290_0.out | (with_reducible refine Kd.C_alloc ?_ _) | (with_reducible refine Kd.C_drewN ?_ _) | (with_reducible refine Kd.C_drew ?_))); (case side2 => exact HC290_0.out); rintro e w18 ⟨v292, rfl, ho0, hb⟩; have n0_ := Aside0.mk (Kd.R_elder' (by (with_reducible repeat (first | apply Kd.R_alloc | apply Kd.R_drewN | apply Kd.R_drew)); exact HO_7.out) (Kd.R_base ho0) hb); have n1_ := Aside0.mk (Kd.R_below (by (with_reducible repeat (first | apply Kd.R_alloc | apply Kd.R_drewN | apply Kd.R_drew)); exact HO_8.out) hb); have n2_ := Aside0.mk (Kd.R_lower (Kd.R_new' ho0 (Kd.R_lt (by (with_reducible repeat (first | apply Kd.R_alloc | apply Kd.R_drewN | apply Kd.R_drew)); exact HO_7.out))) (below_size (by repeat (first | (with_reducible first | exact HB.out | apply kL | apply kM | apply kE) | exact HB.out)))); have n3_ := Aside0.mk (below_step (by repeat (first | (with_reducible first | exact HB.out | apply kL | apply kM | apply kE) | exact HB.out)) hb); clear HO_7; clear HO_8; clear HB; have HO_7 := n0_; have HO_8 := n1_; have HO293 := n2_; have HB := n3_; clear n0_ n1_ n2_ n3_; (try clear hb); (try clear hb2); (try clear hk); (try clear hi); (try clear ho0); obtain ⟨Ao20, co20, eo20⟩ := Kd.R_slice HO293.out; subst eo20) | ((with_reducible refine gate_builtin (b := .append) (xs := #[.tmp 36, .tmp 44]) rfl ?_); (try (refine gate_guard (by rfl) ?_; dsimp only)); at_builtin; refine Kd.R_append_rows (Kd.int .u8) (w0 := w) w.heap.size rfl (.tmp 36) (.tmp 44) 22 5 (.int .u8 0) 1 rfl Tryd.underlying22 info5 rfl (by decide) (by omega) u7 x7_2 t291 _ _ _ (fun k_ => some k_ ≠ (.slice Ao20 t291.length co20 : Value).ownBlock) (fun _ => False) rfl rfl ?aO ?aR (fun _ _ h => h) (fun _ h => h.elim) ?aF ?aB ?aS ?aL ?_; (case aR => repeat (first | exact (Kd.R_reads' HO293.out).2.2 | (with_reducible refine Kd.C_alloc ?_ _) | (with_reducible refine Kd.C_drewN ?_ _) | (with_reducible refine Kd.C_drew ?_))); (case aB => exact (by repeat (first | (with_reducible first | exact HB.out | apply kL | apply kM | apply kE) | exact HB.out))); (case aF => exact (fun k_ hk => Kd.fresh' (Kd.R_lt (by (with_reducible repeat (first | apply Kd.R_alloc | apply Kd.R_drewN | apply Kd.R_drew)); exact HO293.out)) k_ hk)); (case aO => exact (by (with_reducible repeat (first | apply Kd.R_alloc | apply Kd.R_drewN | apply Kd.R_drew)); exact Kd.R_mono HO_7.out (fun _ hk => hk.2))); (case aS => exact (below_size (by repeat (first | (with_reducible first | exact HB.out | apply kL | apply kM | apply kE) | exact HB.out)))); (case aL => have := LMc16.out; omega); intro v295 w19 ho hb hg hat; rw [← Ny294.out] at ho; have n0_ := Aside0.mk (Kd.R_over' (by (with_reducible repeat (first | apply Kd.R_alloc | apply Kd.R_drewN | apply Kd.R_drew)); exact HO_8.out) (Kd.R_typed (by (with_reducible repeat (first | apply Kd.R_alloc | apply Kd.R_drewN | apply Kd.R_drew)); exact HO_7.out)) (by decide) hg); have n1_ := Aside0.mk (Kd.R_after (ok := (fun _ => True)) (by (with_reducible repeat (first | apply Kd.R_alloc | apply Kd.R_drewN | apply Kd.R_drew)); exact HO293.out) hg hat); have n2_ := Aside0.mk (hb); have n3_ := Aside0.mk (ho); clear HO_8; clear HO293; clear HB; clear HO_7; have HO_8 := n0_; have HO293 := n1_; have HB := n2_; have HO296 := n3_; clear n0_ n1_ n2_ n3_; clear ho hb hg hat; obtain ⟨Ao21, co21, eo21⟩ := Kd.R_slice HO296.out; subst eo21) | ((with_reducible refine gate_builtin (b := .append) (xs := #[.tmp 46, .tmp 49]) rfl ?_); (try (refine gate_guard (by rfl) ?_; dsimp only)); at_builtin; refine Kd.R_append (Kd.int .i64) (w0 := w) w.heap.size rfl (.tmp 46) (.tmp 49) 29 3 (.int .i64 0) 8 rfl Tryd.underlying29 info3 rfl (by decide) (by omega) u8 x8_2 (y294.length : Int) [.int .i64 (y294.length : Int)] (fun _ => True) (fun _ => False) rfl rfl ?aP (fun _ hk => hk.elim) ?aF ?aO ?aB ?aS ?aL ?_; (case aP => exact rfl); (case aB => exact (by repeat (first | (with_reducible first | exact HB.out | apply kL | apply kM | apply kE) | exact HB.out))); (case aF => exact (fun _ _ => trivial)); (case aO => exact (by (with_reducible repeat (first | apply Kd.R_alloc | apply Kd.R_drewN | apply Kd.R_drew)); exact HO_8.out)); (case aS => exact (below_size (by repeat (first | (with_reducible first | exact HB.out | apply kL | apply kM | apply kE) | exact HB.out)))); (case aL => have := LMc17.out; omega); intro v298 w22 ho hb hg hat; rw [← Ny297.out] at ho; have n0_ := Aside0.mk (Kd.R_over' (by (with_reducible repeat (first | apply Kd.R_alloc | apply Kd.R_drewN | apply Kd.R_drew)); exact HO293.out) (Kd.R_typed (by (with_reducible repeat (first | apply Kd.R_alloc | apply Kd.R_drewN | apply Kd.R_drew)); exact HO_8.out)) (by decide) hg); have n1_ := Aside0.mk (Kd.R_over' (by (with_reducible repeat (first | apply Kd.R_alloc | apply Kd.R_drewN | apply Kd.R_drew)); exact HO296.out) (Kd.R_typed (by (with_reducible repeat (first | apply Kd.R_alloc | apply Kd.R_drewN | apply Kd.R_drew)); exact HO_8.out)) (by decide) hg); have n2_ := Aside0.mk (hb); have n3_ := Aside0.mk (ho); clear HO293; clear HO296; clear HB; clear HO_8; have HO293 := n0_; have HO296 := n1_; have HB := n2_; have HO299 := n3_; clear n0_ n1_ n2_ n3_; clear ho hb hg hat)))
           go_roundg k2
           case measure => have := HJ3.out; have := HK2.out; omega
           case rel => exact ⟨(y294), (y297), (wrap64 (x9_2 + 1)), (by first | rfl | (simp; done) | (simp [*]; done)), H', ⟨by have := HJ3.out; have := HK2.out; omega⟩, ⟨by (with_reducible repeat (first | apply Kd.R_alloc | apply Kd.R_drewN | apply Kd.R_drew)); exact Kd.R_mono HO296.out (fun _ hk => trivial)⟩, ⟨by (with_reducible repeat (first | apply Kd.R_alloc | apply Kd.R_drewN | apply Kd.R_drew)); exact HO299.out⟩, ⟨by repeat (first | (with_reducible first | exact HB.out | apply kL | apply kM | apply kE) | exact HB.out)⟩⟩
          ·rw [if_neg c17] at H
           exact absurd H (by simp)
         ·rw [if_neg c16] at H
          exact absurd H (by simp)
       ·rw [if_neg c13] at H
        exact absurd H (by simp)
      ·rw [if_neg c12] at H
       have c12b0 : decide (x9_2 < (l1.length : Int)) = false := decide_eq_false c12
       clear c12
       by_cases c23 : (wrap64 ((x7_2.length : Int) + 1)) = 0
       ·rw [if_pos c23] at H
        exact absurd H (by simp)
       ·rw [if_neg c23] at H
        have c23b0 : ((wrap64 ((x7_2.length : Int) + 1)) == 0) = false := beq_eq_false_iff_ne.mpr c23
        have c23b1 : ((wrap64 ((x7_2.length : Int) + 1)) != 0) = true := bne_iff_ne.mpr c23
        have H' := Aside0.mk H
        clear H
        obtain ⟨Ao24, co24, eo24⟩ := Kd.R_slice HO_7.out
        subst eo24
        go_wp2
        repeat (go_quiet (fail); try go_wp2)
        go_loopg [11, 12] k2 (fun kq v11 v12 w' => ∃ (x11_3 : Int) (x12_3 : Int), v11 = .int .i64 x11_3 ∧ v12 = .int .i64 x12_3 ∧ Aside0 (paybooklaw06_SealRows.l1 kq a0 l1 x7_2 x8_2 (Int.tmod (wrap64 (a2)) (wrap64 ((x7_2.length : Int) + 1))) x11_3 x12_3 = some true) ∧ Aside0 (kq ≤ k2) ∧ Aside0 (Kd.R (Kd.int .u8) 5 w' w.heap.size (fun _ => True) (.slice Ao24 x7_2.length co24) x7_2) ∧ Aside0 (Kd.R (Kd.int .i64) 3 w' w.heap.size (fun _ => True) u8 x8_2) ∧ Aside0 (Below w.heap.size w w'))
        case atStart => exact ⟨(0), (0), (by first | rfl | (simp; done) | (simp [*]; done)), (by first | rfl | (simp; done) | (simp [*]; done)), H', ⟨Nat.le_refl _⟩, ⟨by (with_reducible repeat (first | apply Kd.R_alloc | apply Kd.R_drewN | apply Kd.R_drew)); exact HO_7.out⟩, ⟨by (with_reducible repeat (first | apply Kd.R_alloc | apply Kd.R_drewN | apply Kd.R_drew)); exact HO_8.out⟩, ⟨by repeat (first | (with_reducible first | exact HB.out | apply kL | apply kM | apply kE) | exact HB.out)⟩⟩
        case round =>
         clear H'
         try clear c1
         try clear c2
         try clear p2
         try clear q2
         try clear hx2
         try clear c4
         try clear c6
         try clear p6
         try clear c9
         try clear c12
         try clear c12b0
         try clear c13
         try clear c13b0
         try clear c14
         try clear c14b0
         try clear c14b1
         try clear c16
         try clear c17
         try clear c23
         try clear c23b0
         try clear c23b1
         try clear hx289_0
         try clear hx290_0
         try clear p2
         try clear p289
         try clear p290
         try clear q289
         try clear q290
         obtain ⟨x11_3, x12_3, rfl, rfl, HA, HK3, HO_7, HO_8, HB⟩ := hrel
         cases gk with
         | zero => exact absurd HA.out (by simp [paybooklaw06_SealRows.l1])
         | succ k3 =>
          have H := HA.out
          clear HA
          simp only [paybooklaw06_SealRows.l1] at H
          by_cases c25 : x12_3 < (l1.length : Int)
          ·rw [if_pos c25] at H
           have c25b0 : decide (x12_3 < (l1.length : Int)) = true := decide_eq_true c25
           clear c25
           by_cases c26 : 0 ≤ x11_3
           ·rw [if_pos c26] at H
            have c26b0 := eq_true c26
            have c26b1 : decide (0 ≤ x11_3) = true := decide_eq_true c26
            clear c26
            by_cases c27 : x11_3 ≤ (Int.tmod (wrap64 (a2)) (wrap64 ((x7_2.length : Int) + 1)))
            ·rw [if_pos c27] at H
             have c27b0 := eq_true c27
             have c27b1 : decide (x11_3 ≤ (Int.tmod (wrap64 (a2)) (wrap64 ((x7_2.length : Int) + 1)))) = true := decide_eq_true c27
             by_cases c28 : (Int.tmod (wrap64 (a2)) (wrap64 ((x7_2.length : Int) + 1))) ≤ (x7_2.length : Int)
             ·rw [if_pos c28] at H
              have c28b0 := eq_true c28
              have c28b1 : decide ((Int.tmod (wrap64 (a2)) (wrap64 ((x7_2.length : Int) + 1))) ≤ (x7_2.length : Int)) = true := decide_eq_true c28
              obtain ⟨y300, hy300⟩ : ∃ y_ : List Int, y_ = ((x7_2.take ((Int.tmod (wrap64 (a2)) (wrap64 ((x7_2.length : Int) + 1))) : Int).toNat).drop (x11_3 : Int).toNat) := ⟨_, rfl⟩
              replace H : ((seal_Open.f k3 a0 ((x12_3) % 4294967296) y300).bind fun bt304 => (if 0 ≤ x12_3 then (if x12_3 < (x8_2.length : Int) then (if (rd x8_2 x12_3) > (Int.tmod (wrap64 (a2)) (wrap64 ((x7_2.length : Int) + 1))) then (if bt304.2.2 = 5 then (if (bt304.1.length : Int) = 0 then (some (bt304.2.1 == 0)) else (some false)) else (some false)) else (if bt304.2.2 = 0 then (if (strOfNums bt304.1).toList = (strOfNums (rd_L1 l1 x12_3)).toList then (if (wrap64 (x11_3 + bt304.2.1)) = (rd x8_2 x12_3) then (paybooklaw06_SealRows.l1 k3 a0 l1 x7_2 x8_2 (Int.tmod (wrap64 (a2)) (wrap64 ((x7_2.length : Int) + 1))) (wrap64 (x11_3 + bt304.2.1)) (wrap64 (x12_3 + 1))) else (some false)) else (some false)) else (some false))) else (none)) else (none))) = some true := by first | (rw [hy300]; with_reducible exact H) | (have H2_ := (Option.bind_some _ _).symm.trans H; rw [hy300]; with_reducible exact H2_) | (have H2_ := (Option.bind_some _ _).symm.trans H; with_reducible exact H2_) | with_reducible exact H | (rw [hy300]; exact H) | exact H
              have Ny300 := Aside0.mk hy300
              clear hy300
              replace H := Option.bind_eq_some_iff.mp H
              obtain ⟨⟨t304, t305, t306⟩, A290, H⟩ := H
              replace H : (if 0 ≤ x12_3 then (if x12_3 < (x8_2.length : Int) then (if (rd x8_2 x12_3) > (Int.tmod (wrap64 (a2)) (wrap64 ((x7_2.length : Int) + 1))) then (if t306 = 5 then (if (t304.length : Int) = 0 then (some (t305 == 0)) else (some false)) else (some false)) else (if t306 = 0 then (if (strOfNums t304).toList = (strOfNums (rd_L1 l1 x12_3)).toList then (if (wrap64 (x11_3 + t305)) = (rd x8_2 x12_3) then (paybooklaw06_SealRows.l1 k3 a0 l1 x7_2 x8_2 (Int.tmod (wrap64 (a2)) (wrap64 ((x7_2.length : Int) + 1))) (wrap64 (x11_3 + t305)) (wrap64 (x12_3 + 1))) else (some false)) else (some false)) else (some false))) else (none)) else (none)) = some true := H
              have A29 := Aside0.mk A290
              clear A290
              by_cases c30 : 0 ≤ x12_3
              ·rw [if_pos c30] at H
               have c30b0 : decide (0 ≤ x12_3) = true := decide_eq_true c30
               clear c30
               by_cases c31 : x12_3 < (x8_2.length : Int)
               ·rw [if_pos c31] at H
                have c31b0 : decide (x12_3 < (x8_2.length : Int)) = true := decide_eq_true c31
                clear c31
                by_cases c32 : (rd x8_2 x12_3) > (Int.tmod (wrap64 (a2)) (wrap64 ((x7_2.length : Int) + 1)))
                ·rw [if_pos c32] at H
                 have c32b0 : decide ((Int.tmod (wrap64 (a2)) (wrap64 ((x7_2.length : Int) + 1))) < (rd x8_2 x12_3)) = true := decide_eq_true c32
                 clear c32
                 by_cases c33 : t306 = 5
                 ·rw [if_pos c33] at H
                  have c33b0 : (t306 == 5) = true := beq_iff_eq.mpr c33
                  have c33b1 : (t306 != 5) = false := bne_eq_false_iff_eq.mpr c33
                  clear c33
                  by_cases c34 : (t304.length : Int) = 0
                  ·rw [if_pos c34] at H
                   have c34b0 : ((t304.length : Int) == 0) = true := beq_iff_eq.mpr c34
                   have c34b1 : ((t304.length : Int) != 0) = false := bne_eq_false_iff_eq.mpr c34
                   clear c34
                   have HT_ := Option.some.inj H
                   clear H
                   (try (have HT_z_ := HT_; simp only [beq_true, beq_false, true_beq, false_beq, Bool.not_eq_true', Bool.not_eq_false', Bool.not_true, Bool.not_false] at HT_z_))
                   have q35 : ((Int.tmod (wrap64 (a2)) (wrap64 ((x7_2.length : Int) + 1))) : Int) ≤ ((x7_2.length : Int) : Int) := of_decide_eq_true (by first | (with_reducible assumption) | assumption)
                   obtain ⟨i035, hi035, _, hsz35, _⟩ := info_parts info5
                   have hroom35 : x7_2.length ≤ co24 := (Kd.R_reads' HO_7.out).2.1
                   have hC35 : Kd.C (Kd.int .u8) _ Ao24 x7_2.length x7_2 := (Kd.R_reads' HO_7.out).2.2
                   have ql35 : (x11_3 : Int) ≤ ((Int.tmod (wrap64 (a2)) (wrap64 ((x7_2.length : Int) + 1))) : Int) := of_decide_eq_true (by first | (with_reducible assumption) | assumption)
                   have q035 : (0 : Int) ≤ (x11_3 : Int) := of_decide_eq_true (by first | (with_reducible assumption) | assumption)
                   have hcut35 := cut_mid (P := Tryd.prog) 22 5 .i64 .i64 Tryd.underlying22 hi035 1 hsz35 Ao24 x7_2.length co24 x11_3 (Int.tmod (wrap64 (a2)) (wrap64 ((x7_2.length : Int) + 1))) q035 ql35 q35 hroom35
                   have hr35 := Kd.C_mid (lo := (x11_3 : Int).toNat) (hi := ((Int.tmod (wrap64 (a2)) (wrap64 ((x7_2.length : Int) + 1))) : Int).toNat) (c := co24) hC35 (by omega) (by omega) hroom35
                   obtain ⟨A35, hA35⟩ : ∃ A1, A1 = (if co24 = (x11_3 : Int).toNat then Ao24 else (Ao24 : Option Addr).map (·.add ((x11_3 : Int).toNat * 1))) := ⟨_, rfl⟩
                   obtain ⟨c35, hc35⟩ : ∃ c1, c1 = co24 - (x11_3 : Int).toNat := ⟨_, rfl⟩
                   have hy35 : y300.length = ((Int.tmod (wrap64 (a2)) (wrap64 ((x7_2.length : Int) + 1))) : Int).toNat - (x11_3 : Int).toNat := (by rw [Ny300.out, List.length_drop, List.length_take] <;> omega)
                   rw [show ((x7_2).take ((Int.tmod (wrap64 (a2)) (wrap64 ((x7_2.length : Int) + 1))) : Int).toNat).drop (x11_3 : Int).toNat = y300 from Ny300.out.symm] at hr35
                   replace hr35 : Kd.C (Kd.int .u8) _ A35 y300.length y300 := (by rw [hA35]; exact hr35)
                   rw [← hy35, ← hA35, ← hc35] at hcut35
                   have HR303 := Aside0.mk hr35
                   have HC303 := Aside0.mk (show y300.length ≤ c35 from by rw [hy35, hc35]; exact Nat.sub_le_sub_right (Nat.le_trans (by omega) hroom35) _)
                   clear hr35 hC35 hroom35 hi035 hsz35 hc35
                   have KY35 := Aside0.mk hy35
                   have KA35 := Aside0.mk hA35
                   clear hy35 hA35
                   have KL35 := Aside0.mk (show ((Int.tmod (wrap64 (a2)) (wrap64 ((x7_2.length : Int) + 1))) : Int).toNat ≤ x7_2.length from by omega)
                   have KM35 := Aside0.mk (show (x11_3 : Int).toNat ≤ ((Int.tmod (wrap64 (a2)) (wrap64 ((x7_2.length : Int) + 1))) : Int).toNat from by omega)
                   replace q35 := eq_true q35
                   go_wp2_with (first | (go_at_call 12; (with_reducible refine (seal_Open.calls k3 a0 ((x12_3) % 4294967296) _ _ y300 t304 t305 t306 _ ?side1 ?side2 ?side3 A29.out).mono ?_); (case side1 => repeat (first | exact (by repeat (first | (with_reducible exact HR303.out) | (with_reducible refine Kd.C_alloc ?_ _) | (with_reducible refine Kd.C_drewN ?_ _) | (with_reducible refine Kd.C_drew ?_) | exact HR303.out)) | (with_reducible refine Kd.C_alloc ?_ _) | (with_reducible refine Kd.C_drewN ?_ _) | (with_reducible refine Kd.C_drew ?_))); (case side2 => exact HC303.out); (case side3 => repeat (first | exact (Kd.C_below HRG0.out HB.out) | exact HRG0.out | (with_reducible refine Kd.C_alloc ?_ _) | (with_reducible refine Kd.C_drewN ?_ _) | (with_reducible refine Kd.C_drew ?_))); rintro e w36 ⟨v307, rfl, ho0, hb⟩; have n0_ := Aside0.mk (Kd.R_elder' (by (with_reducible repeat (first | apply Kd.R_alloc | apply Kd.R_drewN | apply Kd.R_drew)); exact HO_7.out) (Kd.R_base ho0) hb); have n1_ := Aside0.mk (Kd.R_below (by (with_reducible repeat (first | apply Kd.R_alloc | apply Kd.R_drewN | apply Kd.R_drew)); exact HO_8.out) hb); have n2_ := Aside0.mk (Kd.R_lower (Kd.R_new' ho0 (Kd.R_lt (by (with_reducible repeat (first | apply Kd.R_alloc | apply Kd.R_drewN | apply Kd.R_drew)); exact HO_7.out))) (below_size (by repeat (first | (with_reducible first | exact HB.out | apply kL | apply kM | apply kE) | exact HB.out)))); have n3_ := Aside0.mk (Kd.C_below (by repeat (first | (with_reducible exact HR303.out) | (with_reducible refine Kd.C_alloc ?_ _) | (with_reducible refine Kd.C_drewN ?_ _) | (with_reducible refine Kd.C_drew ?_) | exact HR303.out)) hb); have n4_ := Aside0.mk (below_step (by repeat (first | (with_reducible first | exact HB.out | apply kL | apply kM | apply kE) | exact HB.out)) hb); clear HO_7; clear HO_8; clear HR303; clear HB; have HO_7 := n0_; have HO_8 := n1_; have HO308 := n2_; have HR303 := n3_; have HB := n4_; clear n0_ n1_ n2_ n3_ n4_; (try clear hb); (try clear hb2); (try clear hk); (try clear hi); (try clear ho0); obtain ⟨Ao37, co37, eo37⟩ := Kd.R_slice HO_8.out; subst eo37; have p309 : 0 ≤ (x12_3 : Int) := of_decide_eq_true (by first | (with_reducible assumption) | assumption); have q309 : x12_3 < (x8_2.length : Int) := of_decide_eq_true (by first | (with_reducible assumption) | assumption); obtain ⟨ad309, e309, hx309_0⟩ := Kd.at_int (Kd.R_reads' HO_8.out).2.2 x12_3 p309 q309; cases e309; replace p309 := eq_true p309; replace q309 := eq_true q309; obtain ⟨Ao38, co38, eo38⟩ := Kd.R_slice HO308.out; subst eo38))
                   repeat (go_quiet (first | (go_at_call 12; (with_reducible refine (seal_Open.calls k3 a0 ((x12_3) % 4294967296) _ _ y300 t304 t305 t306 _ ?side1 ?side2 ?side3 A29.out).mono ?_); (case side1 => repeat (first | exact (by repeat (first | (with_reducible exact HR303.out) | (with_reducible refine Kd.C_alloc ?_ _) | (with_reducible refine Kd.C_drewN ?_ _) | (with_reducible refine Kd.C_drew ?_) | exact HR303.out)) | (with_reducible refine Kd.C_alloc ?_ _) | (with_reducible refine Kd.C_drewN ?_ _) | (with_reducible refine Kd.C_drew ?_))); (case side2 => exact HC303.out); (case side3 => repeat (first | exact (Kd.C_below HRG0.out HB.out) | exact HRG0.out | (with_reducible refine Kd.C_alloc ?_ _) | (with_reducible refine Kd.C_drewN ?_ _) | (with_reducible refine Kd.C_drew ?_))); rintro e w36 ⟨v307, rfl, ho0, hb⟩; have n0_ := Aside0.mk (Kd.R_elder' (by (with_reducible repeat (first | apply Kd.R_alloc | apply Kd.R_drewN | apply Kd.R_drew)); exact HO_7.out) (Kd.R_base ho0) hb); have n1_ := Aside0.mk (Kd.R_below (by (with_reducible repeat (first | apply Kd.R_alloc | apply Kd.R_drewN | apply Kd.R_drew)); exact HO_8.out) hb); have n2_ := Aside0.mk (Kd.R_lower (Kd.R_new' ho0 (Kd.R_lt (by (with_reducible repeat (first | apply Kd.R_alloc | apply Kd.R_drewN | apply Kd.R_drew)); exact HO_7.out))) (below_size (by repeat (first | (with_reducible first | exact HB.out | apply kL | apply kM | apply kE) | exact HB.out)))); have n3_ := Aside0.mk (Kd.C_below (by repeat (first | (with_reducible exact HR303.out) | (with_reducible refine Kd.C_alloc ?_ _) | (with_reducible refine Kd.C_drewN ?_ _) | (with_reducible refine Kd.C_drew ?_) | exact HR303.out)) hb); have n4_ := Aside0.mk (below_step (by repeat (first | (with_reducible first | exact HB.out | apply kL | apply kM | apply kE) | exact HB.out)) hb); clear HO_7; clear HO_8; clear HR303; clear HB; have HO_7 := n0_; have HO_8 := n1_; have HO308 := n2_; have HR303 := n3_; have HB := n4_; clear n0_ n1_ n2_ n3_ n4_; (try clear hb); (try clear hb2); (try clear hk); (try clear hi); (try clear ho0); obtain ⟨Ao37, co37, eo37⟩ := Kd.R_slice HO_8.out; subst eo37; have p309 : 0 ≤ (x12_3 : Int) := of_decide_eq_true (by first | (with_reducible assumption) | assumption); have q309 : x12_3 < (x8_2.length : Int) := of_decide_eq_true (by first | (with_reducible assumption) | assumption); obtain ⟨ad309, e309, hx309_0⟩ := Kd.at_int (Kd.R_reads' HO_8.out).2.2 x12_3 p309 q309; cases e309; replace p309 := eq_true p309; replace q309 := eq_true q309; obtain ⟨Ao38, co38, eo38⟩ := Kd.R_slice HO308.out; subst eo38)); try go_wp2_with (first | (go_at_call 12; (with_reducible refine (seal_Open.calls k3 a0 ((x12_3) % 4294967296) _ _ y300 t304 t305 t306 _ ?side1 ?side2 ?side3 A29.out).mono ?_); (case side1 => repeat (first | exact (by repeat (first | (with_reducible exact HR303.out) | (with_reducible refine Kd.C_alloc ?_ _) | (with_reducible refine Kd.C_drewN ?_ _) | (with_reducible refine Kd.C_drew ?_) | exact HR303.out)) | (with_reducible refine Kd.C_alloc ?_ _) | (with_reducible refine Kd.C_drewN ?_ _) | (with_reducible refine Kd.C_drew ?_))); (case side2 => exact HC303.out); (case side3 => repeat (first | exact (Kd.C_below HRG0.out HB.out) | exact HRG0.out | (with_reducible refine Kd.C_alloc ?_ _) | (with_reducible refine Kd.C_drewN ?_ _) | (with_reducible refine Kd.C_drew ?_))); rintro e w36 ⟨v307, rfl, ho0, hb⟩; have n0_ := Aside0.mk (Kd.R_elder' (by (with_reducible repeat (first | apply Kd.R_alloc | apply Kd.R_drewN | apply Kd.R_drew)); exact HO_7.out) (Kd.R_base ho0) hb); have n1_ := Aside0.mk (Kd.R_below (by (with_reducible repeat (first | apply Kd.R_alloc | apply Kd.R_drewN | apply Kd.R_drew)); exact HO_8.out) hb); have n2_ := Aside0.mk (Kd.R_lower (Kd.R_new' ho0 (Kd.R_lt (by (with_reducible repeat (first | apply Kd.R_alloc | apply Kd.R_drewN | apply Kd.R_drew)); exact HO_7.out))) (below_size (by repeat (first | (with_reducible first | exact HB.out | apply kL | apply kM | apply kE) | exact HB.out)))); have n3_ := Aside0.mk (Kd.C_below (by repeat (first | (with_reducible exact HR303.out) | (with_reducible refine Kd.C_alloc ?_ _) | (with_reducible refine Kd.C_drewN ?_ _) | (with_reducible refine Kd.C_drew ?_) | exact HR303.out)) hb); have n4_ := Aside0.mk (below_step (by repeat (first | (with_reducible first | exact HB.out | apply kL | apply kM | apply kE) | exact HB.out)) hb); clear HO_7; clear HO_8; clear HR303; clear HB; have HO_7 := n0_; have HO_8 := n1_; have HO308 := n2_; have HR303 := n3_; have HB := n4_; clear n0_ n1_ n2_ n3_ n4_; (try clear hb); (try clear hb2); (try clear hk); (try clear hi); (try clear ho0); obtain ⟨Ao37, co37, eo37⟩ := Kd.R_slice HO_8.out; subst eo37; have p309 : 0 ≤ (x12_3 : Int) := of_decide_eq_true (by first | (with_reducible assumption) | assumption); have q309 : x12_3 < (x8_2.length : Int) := of_decide_eq_true (by first | (with_reducible assumption) | assumption); obtain ⟨ad309, e309, hx309_0⟩ := Kd.at_int (Kd.R_reads' HO_8.out).2.2 x12_3 p309 q309; cases e309; replace p309 := eq_true p309; replace q309 := eq_true q309; obtain ⟨Ao38, co38, eo38⟩ := Kd.R_slice HO308.out; subst eo38)))
                   go_ret
                   exact ⟨by first | rfl | (simp [errW_none, errW_some] <;> rfl) | (simp [*, errW_none, errW_some] <;> rfl), by repeat (first | (with_reducible first | exact HB.out | apply kL | apply kM | apply kE) | exact HB.out)⟩
                  ·rw [if_neg c34] at H
                   have c34b0 : ((t304.length : Int) == 0) = false := beq_eq_false_iff_ne.mpr c34
                   have c34b1 : ((t304.length : Int) != 0) = true := bne_iff_ne.mpr c34
                   have c34b2 : ¬ (t304 = []) := fun h_ => c34 (by rw [h_]; rfl)
                   exact absurd H (by simp)
                 ·rw [if_neg c33] at H
                  have c33b0 : (t306 == 5) = false := beq_eq_false_iff_ne.mpr c33
                  have c33b1 : (t306 != 5) = true := bne_iff_ne.mpr c33
                  exact absurd H (by simp)
                ·rw [if_neg c32] at H
                 have c32b0 : decide ((Int.tmod (wrap64 (a2)) (wrap64 ((x7_2.length : Int) + 1))) < (rd x8_2 x12_3)) = false := decide_eq_false c32
                 clear c32
                 by_cases c39 : t306 = 0
                 ·rw [if_pos c39] at H
                  have c39b0 : (t306 == 0) = true := beq_iff_eq.mpr c39
                  have c39b1 : (t306 != 0) = false := bne_eq_false_iff_eq.mpr c39
                  clear c39
                  by_cases c40 : (strOfNums t304).toList = (strOfNums (rd_L1 l1 x12_3)).toList
                  ·rw [if_pos c40] at H
                   have c40b0 : ((strOfNums t304).toList == (strOfNums (rd_L1 l1 x12_3)).toList) = true := beq_iff_eq.mpr c40
                   have c40b1 : ((strOfNums t304).toList != (strOfNums (rd_L1 l1 x12_3)).toList) = false := bne_eq_false_iff_eq.mpr c40
                   clear c40
                   by_cases c41 : (wrap64 (x11_3 + t305)) = (rd x8_2 x12_3)
                   ·rw [if_pos c41] at H
                    have c41b0 : ((wrap64 (x11_3 + t305)) == (rd x8_2 x12_3)) = true := beq_iff_eq.mpr c41
                    have c41b1 : ((wrap64 (x11_3 + t305)) != (rd x8_2 x12_3)) = false := bne_eq_false_iff_eq.mpr c41
                    clear c41
                    have H' := Aside0.mk H
                    clear H
                    have q42 : ((Int.tmod (wrap64 (a2)) (wrap64 ((x7_2.length : Int) + 1))) : Int) ≤ ((x7_2.length : Int) : Int) := of_decide_eq_true (by first | (with_reducible assumption) | assumption)
                    obtain ⟨i042, hi042, _, hsz42, _⟩ := info_parts info5
                    have hroom42 : x7_2.length ≤ co24 := (Kd.R_reads' HO_7.out).2.1
                    have hC42 : Kd.C (Kd.int .u8) _ Ao24 x7_2.length x7_2 := (Kd.R_reads' HO_7.out).2.2
                    have ql42 : (x11_3 : Int) ≤ ((Int.tmod (wrap64 (a2)) (wrap64 ((x7_2.length : Int) + 1))) : Int) := of_decide_eq_true (by first | (with_reducible assumption) | assumption)
                    have q042 : (0 : Int) ≤ (x11_3 : Int) := of_decide_eq_true (by first | (with_reducible assumption) | assumption)
                    have hcut42 := cut_mid (P := Tryd.prog) 22 5 .i64 .i64 Tryd.underlying22 hi042 1 hsz42 Ao24 x7_2.length co24 x11_3 (Int.tmod (wrap64 (a2)) (wrap64 ((x7_2.length : Int) + 1))) q042 ql42 q42 hroom42
                    have hr42 := Kd.C_mid (lo := (x11_3 : Int).toNat) (hi := ((Int.tmod (wrap64 (a2)) (wrap64 ((x7_2.length : Int) + 1))) : Int).toNat) (c := co24) hC42 (by omega) (by omega) hroom42
                    obtain ⟨A42, hA42⟩ : ∃ A1, A1 = (if co24 = (x11_3 : Int).toNat then Ao24 else (Ao24 : Option Addr).map (·.add ((x11_3 : Int).toNat * 1))) := ⟨_, rfl⟩
                    obtain ⟨c42, hc42⟩ : ∃ c1, c1 = co24 - (x11_3 : Int).toNat := ⟨_, rfl⟩
                    have hy42 : y300.length = ((Int.tmod (wrap64 (a2)) (wrap64 ((x7_2.length : Int) + 1))) : Int).toNat - (x11_3 : Int).toNat := (by rw [Ny300.out, List.length_drop, List.length_take] <;> omega)
                    rw [show ((x7_2).take ((Int.tmod (wrap64 (a2)) (wrap64 ((x7_2.length : Int) + 1))) : Int).toNat).drop (x11_3 : Int).toNat = y300 from Ny300.out.symm] at hr42
                    replace hr42 : Kd.C (Kd.int .u8) _ A42 y300.length y300 := (by rw [hA42]; exact hr42)
                    rw [← hy42, ← hA42, ← hc42] at hcut42
                    have HR303 := Aside0.mk hr42
                    have HC303 := Aside0.mk (show y300.length ≤ c42 from by rw [hy42, hc42]; exact Nat.sub_le_sub_right (Nat.le_trans (by omega) hroom42) _)
                    clear hr42 hC42 hroom42 hi042 hsz42 hc42
                    have KY42 := Aside0.mk hy42
                    have KA42 := Aside0.mk hA42
                    clear hy42 hA42
                    have KL42 := Aside0.mk (show ((Int.tmod (wrap64 (a2)) (wrap64 ((x7_2.length : Int) + 1))) : Int).toNat ≤ x7_2.length from by omega)
                    have KM42 := Aside0.mk (show (x11_3 : Int).toNat ≤ ((Int.tmod (wrap64 (a2)) (wrap64 ((x7_2.length : Int) + 1))) : Int).toNat from by omega)
                    replace q42 := eq_true q42
                    go_wp2_with (first | (go_at_call 12; (with_reducible refine (seal_Open.calls k3 a0 ((x12_3) % 4294967296) _ _ y300 t304 t305 t306 _ ?side1 ?side2 ?side3 A29.out).mono ?_); (case side1 => repeat (first | exact (by repeat (first | (with_reducible exact HR303.out) | (with_reducible refine Kd.C_alloc ?_ _) | (with_reducible refine Kd.C_drewN ?_ _) | (with_reducible refine Kd.C_drew ?_) | exact HR303.out)) | (with_reducible refine Kd.C_alloc ?_ _) | (with_reducible refine Kd.C_drewN ?_ _) | (with_reducible refine Kd.C_drew ?_))); (case side2 => exact HC303.out); (case side3 => repeat (first | exact (Kd.C_below HRG0.out HB.out) | exact HRG0.out | (with_reducible refine Kd.C_alloc ?_ _) | (with_reducible refine Kd.C_drewN ?_ _) | (with_reducible refine Kd.C_drew ?_))); rintro e w43 ⟨v307, rfl, ho0, hb⟩; have n0_ := Aside0.mk (Kd.R_elder' (by (with_reducible repeat (first | apply Kd.R_alloc | apply Kd.R_drewN | apply Kd.R_drew)); exact HO_7.out) (Kd.R_base ho0) hb); have n1_ := Aside0.mk (Kd.R_below (by (with_reducible repeat (first | apply Kd.R_alloc | apply Kd.R_drewN | apply Kd.R_drew)); exact HO_8.out) hb); have n2_ := Aside0.mk (Kd.R_lower (Kd.R_new' ho0 (Kd.R_lt (by (with_reducible repeat (first | apply Kd.R_alloc | apply Kd.R_drewN | apply Kd.R_drew)); exact HO_7.out))) (below_size (by repeat (first | (with_reducible first | exact HB.out | apply kL | apply kM | apply kE) | exact HB.out)))); have n3_ := Aside0.mk (Kd.C_below (by repeat (first | (with_reducible exact HR303.out) | (with_reducible refine Kd.C_alloc ?_ _) | (with_reducible refine Kd.C_drewN ?_ _) | (with_reducible refine Kd.C_drew ?_) | exact HR303.out)) hb); have n4_ := Aside0.mk (below_step (by repeat (first | (with_reducible first | exact HB.out | apply kL | apply kM | apply kE) | exact HB.out)) hb); clear HO_7; clear HO_8; clear HR303; clear HB; have HO_7 := n0_; have HO_8 := n1_; have HO308 := n2_; have HR303 := n3_; have HB := n4_; clear n0_ n1_ n2_ n3_ n4_; (try clear hb); (try clear hb2); (try clear hk); (try clear hi); (try clear ho0); obtain ⟨Ao44, co44, eo44⟩ := Kd.R_slice HO_8.out; subst eo44; have p309 : 0 ≤ (x12_3 : Int) := of_decide_eq_true (by first | (with_reducible assumption) | assumption); have q309 : x12_3 < (x8_2.length : Int) := of_decide_eq_true (by first | (with_reducible assumption) | assumption); obtain ⟨ad309, e309, hx309_0⟩ := Kd.at_int (Kd.R_reads' HO_8.out).2.2 x12_3 p309 q309; cases e309; replace p309 := eq_true p309; replace q309 := eq_true q309; have hcv45 := own_string (P := Tryd.prog) Tryd.underlying22 Tryd.underlying5 Tryd.underlying9 (Kd.own_of_R HO308.out); have p310 : 0 ≤ (x12_3 : Int) := of_decide_eq_true (by first | (with_reducible assumption) | assumption); have q310 : x12_3 < (l1.length : Int) := of_decide_eq_true (by first | (with_reducible assumption) | assumption); obtain ⟨ad310, A310_0, c310_0, e310, hx310_0, hl310_0, hi310_0⟩ := at_L1 HR1.out x12_3 p310 q310; cases e310; replace hx310_0 := (HB.out.cell (World.block_lt_of_cell? w _ hx310_0)).trans hx310_0; have HR310_0 := Aside0.mk hi310_0; have HC310_0 := Aside0.mk hl310_0; clear hi310_0 hl310_0; replace p310 := eq_true p310; replace q310 := eq_true q310; have hcv46 := Kd.C_string (P := Tryd.prog) (A := A310_0) (c := c310_0) Tryd.underlying22 Tryd.underlying5 Tryd.underlying9 (Kd.C_below HR310_0.out HB.out); have p311 : 0 ≤ (x12_3 : Int) := of_decide_eq_true (by first | (with_reducible assumption) | assumption); have q311 : x12_3 < (x8_2.length : Int) := of_decide_eq_true (by first | (with_reducible assumption) | assumption); obtain ⟨ad311, e311, hx311_0⟩ := Kd.at_int (Kd.R_reads' HO_8.out).2.2 x12_3 p311 q311; obtain rfl : ad309 = ad311 := (by injection e311); replace p311 := eq_true p311; replace q311 := eq_true q311))
                    have hq1 := fun (q_ : Nat) => own_string (P := Tryd.prog) Tryd.underlying22 Tryd.underlying5 Tryd.underlying9 (Kd.own_of_R (Kd.R_drewN HO308.out q_))
                    have hq2 := fun (q_ : Nat) => Kd.C_string (P := Tryd.prog) (A := A310_0) (c := c310_0) Tryd.underlying22 Tryd.underlying5 Tryd.underlying9 (Kd.C_drewN (Kd.C_below HR310_0.out HB.out) q_)
                    go_quiet (fail)
                    go_wp2
                    go_roundg k3
                    case measure => have := HJ3.out; have := HK2.out; have := HK3.out; omega
                    case rel => exact ⟨(wrap64 (x11_3 + t305)), (wrap64 (x12_3 + 1)), (by first | rfl | (simp; done) | (simp [*]; done)), (by first | rfl | (simp; done) | (simp [*]; done)), H', ⟨by have := HJ3.out; have := HK2.out; have := HK3.out; omega⟩, ⟨by (with_reducible repeat (first | apply Kd.R_alloc | apply Kd.R_drewN | apply Kd.R_drew)); exact Kd.R_mono HO_7.out (fun _ hk => trivial)⟩, ⟨by (with_reducible repeat (first | apply Kd.R_alloc | apply Kd.R_drewN | apply Kd.R_drew)); exact HO_8.out⟩, ⟨by repeat (first | (with_reducible first | exact HB.out | apply kL | apply kM | apply kE) | exact HB.out)⟩⟩
                   ·rw [if_neg c41] at H
                    have c41b0 : ((wrap64 (x11_3 + t305)) == (rd x8_2 x12_3)) = false := beq_eq_false_iff_ne.mpr c41
                    have c41b1 : ((wrap64 (x11_3 + t305)) != (rd x8_2 x12_3)) = true := bne_iff_ne.mpr c41
                    exact absurd H (by simp)
                  ·rw [if_neg c40] at H
                   have c40b0 : ((strOfNums t304).toList == (strOfNums (rd_L1 l1 x12_3)).toList) = false := beq_eq_false_iff_ne.mpr c40
                   have c40b1 : ((strOfNums t304).toList != (strOfNums (rd_L1 l1 x12_3)).toList) = true := bne_iff_ne.mpr c40
                   exact absurd H (by simp)
                 ·rw [if_neg c39] at H
                  have c39b0 : (t306 == 0) = false := beq_eq_false_iff_ne.mpr c39
                  have c39b1 : (t306 != 0) = true := bne_iff_ne.mpr c39
                  exact absurd H (by simp)
               ·rw [if_neg c31] at H
                exact absurd H (by simp)
              ·rw [if_neg c30] at H
               exact absurd H (by simp)
             ·rw [if_neg c28] at H
              exact absurd H (by simp)
            ·rw [if_neg c27] at H
             exact absurd H (by simp)
           ·rw [if_neg c26] at H
            exact absurd H (by simp)
          ·rw [if_neg c25] at H
           have c25b0 : decide (x12_3 < (l1.length : Int)) = false := decide_eq_false c25
           clear c25
           have HT_ := Option.some.inj H
           clear H
           (try (have HT_z_ := HT_; simp only [beq_true, beq_false, true_beq, false_beq, Bool.not_eq_true', Bool.not_eq_false', Bool.not_true, Bool.not_false] at HT_z_))
           go_wp2
           repeat (go_quiet (fail); try go_wp2)
           go_ret
           exact ⟨by first | rfl | (simp [errW_none, errW_some] <;> rfl) | (simp [*, errW_none, errW_some] <;> rfl), by repeat (first | (with_reducible first | exact HB.out | apply kL | apply kM | apply kE) | exact HB.out)⟩

end Go.Proofs.YtifefhdinnechaaDoor.PA
