-- printed by this workplace: wip/patchprint.py over the kit's print
import Derived.Test.YtifefhdinnechaaDoorPAx0
import Derived.Test.YtifefhdinnechaaDoorPAx2
import Derived.Test.YtifefhdinnechaaDoorPAx6
import Derived.Test.YtifefhdinnechaaDoorPAx8
namespace Go.Proofs.YtifefhdinnechaaDoor.PA
open Go.RowKit Go.Proofs.YtifefhdinnechaaDoorW.PrintWords Go.Proofs.YtifefhdinnechaaDoorW.PrintLast Go.Proofs.YtifefhdinnechaaDoorW.PrintMore
attribute [local go_sem] max2_int min2_int max_two min_two max_three min_three max_four min_four   -- for this text's walks alone
set_option linter.unusedVariables false
set_option linter.unusedSimpArgs false

/-! ### paybooklaw06_SealTurns: function 5 -/
def paybooklaw06_SealTurns.j0 : Nat → Int → Int → List Int → Int → Int → Int → Bool → Option (Bool)
 | 0, _, _, _, _, _, _, _ => none
 | k + 1, x0, x1, x2, x3, x4, x5, x32 => if x32 = true then ((paybooklaw06_awake.f k).bind fun t170 => (some t170)) else ((seal_Close.f k x0 x1 x2).bind fun t171 => (if (t171.length : Int) = 0 then (none) else (if ([] : List Int).length + t171.length < 140737488355328 then ((some (([] : List Int) ++ t171 : List Int)).bind fun y174 => (if 0 ≤ (Int.tmod (wrap64 (x3)) (t171.length : Int)) then (if (Int.tmod (wrap64 (x3)) (t171.length : Int)) < (y174.length : Int) then ((seal_Open.f k x0 x1 (y174.set ((Int.tmod (wrap64 (x3)) (t171.length : Int)) : Int).toNat (Go.bits .xor .u8 (rd y174 (Int.tmod (wrap64 (x3)) (t171.length : Int))) x4))).bind fun bt179 => (if 0 ≤ (Int.tmod (wrap64 (x5)) (t171.length : Int)) then (if (Int.tmod (wrap64 (x5)) (t171.length : Int)) ≤ (t171.length : Int) then ((seal_Open.f k x0 x1 (t171.take ((Int.tmod (wrap64 (x5)) (t171.length : Int)) : Int).toNat)).bind fun bt188 => (if bt179.2.2 = 0 then (if (Int.tmod (wrap64 (x3)) (t171.length : Int)) < 4 then (if bt179.2.1 < (t171.length : Int) then (some (bt188.2.2 == 5)) else (some false)) else (some false)) else (some (bt188.2.2 == 5)))) else (none)) else (none))) else (none)) else (none))) else (none))))
def paybooklaw06_SealTurns.f (k : Nat) (a0 : Int) (a1 : Int) (l2 : List Int) (a3 : Int) (a4 : Int) (a5 : Int) : Option (Bool) := (paybooklaw06_awake.f k).bind fun t169 => (if t169 = true then (if (l2.length : Int) > 200 then (paybooklaw06_SealTurns.j0 k a0 a1 l2 a3 a4 a5 true) else (paybooklaw06_SealTurns.j0 k a0 a1 l2 a3 a4 a5 (a4 == 0))) else (paybooklaw06_SealTurns.j0 k a0 a1 l2 a3 a4 a5 true))
theorem paybooklaw06_SealTurns.mono_l : ∀ k, (∀ y0 y1 y2 y3 y4 y5 y6, LeO (paybooklaw06_SealTurns.j0 k y0 y1 y2 y3 y4 y5 y6) (paybooklaw06_SealTurns.j0 (k + 1) y0 y1 y2 y3 y4 y5 y6))
 | 0 => fun _ _ _ _ _ _ _ r h => by simp [paybooklaw06_SealTurns.j0] at h
 | k + 1 => by
  have ih0 := paybooklaw06_SealTurns.mono_l k
  ·intro y0 y1 y2 y3 y4 y5 y6
   unfold paybooklaw06_SealTurns.j0
   repeat' first
   | (with_reducible exact ih0 _ _ _ _ _ _ _)
   | (with_reducible exact paybooklaw06_awake.mono _)
   | (with_reducible exact seal_Close.mono _ _ _ _)
   | (with_reducible exact seal_Open.mono _ _ _ _)
   | (with_reducible exact LeO.refl _)
   | (with_reducible exact LeO.none _)
   | (with_reducible refine LeO.ite ?_ ?_)
   | (with_reducible refine LeO.bind ?_ (fun _ => ?_))
   | exact ih0 _ _ _ _ _ _ _
   | exact paybooklaw06_awake.mono _
   | exact seal_Close.mono _ _ _ _
   | exact seal_Open.mono _ _ _ _
   | exact LeO.none _
   | refine LeO.ite ?_ ?_
   | refine LeO.bind ?_ (fun _ => ?_)
theorem paybooklaw06_SealTurns.mono : ∀ a0 a1 a2 a3 a4 a5 k, LeO (paybooklaw06_SealTurns.f k a0 a1 a2 a3 a4 a5) (paybooklaw06_SealTurns.f (k + 1) a0 a1 a2 a3 a4 a5) := by
 intro a0 a1 a2 a3 a4 a5 k
 have ih0 := paybooklaw06_SealTurns.mono_l k
 unfold paybooklaw06_SealTurns.f
 repeat' first
   | (with_reducible exact ih0 _ _ _ _ _ _ _)
   | (with_reducible exact paybooklaw06_awake.mono _)
   | (with_reducible exact seal_Close.mono _ _ _ _)
   | (with_reducible exact seal_Open.mono _ _ _ _)
   | (with_reducible exact LeO.refl _)
   | (with_reducible exact LeO.none _)
   | (with_reducible refine LeO.ite ?_ ?_)
   | (with_reducible refine LeO.bind ?_ (fun _ => ?_))
   | exact ih0 _ _ _ _ _ _ _
   | exact paybooklaw06_awake.mono _
   | exact seal_Close.mono _ _ _ _
   | exact seal_Open.mono _ _ _ _
   | exact LeO.none _
   | refine LeO.ite ?_ ?_
   | refine LeO.bind ?_ (fun _ => ?_)
set_option maxHeartbeats 8000000 in
set_option maxRecDepth 100000 in
theorem paybooklaw06_SealTurns.calls (k : Nat) (a0 : Int) (a1 : Int) (A2 : Option Addr) (c2 : Nat) (l2 : List Int) (a3 : Int) (a4 : Int) (a5 : Int) (w : World) (hr2 : Kd.C (Kd.int .u8) w A2 l2.length l2) (hc2 : l2.length ≤ c2) (hrG0 : Kd.C (Kd.int .u32) w (some ⟨0, 0, none⟩) 16 gl0) (h : paybooklaw06_SealTurns.f k a0 a1 l2 a3 a4 a5 = some true) :
  Calls Tryd.prog 5 #[.int .u32 a0, .int .u32 a1, .slice A2 l2.length c2, .int .u16 a3, .int .u8 a4, .int .u16 a5] w fun e w' => e = .returned (.bool true) ∧ Below w.heap.size w w' := by
 have HR2 := Aside0.mk hr2
 have HC2 := Aside0.mk hc2
 clear hr2 hc2
 have HRG0 := Aside0.mk hrG0
 clear hrG0
 have HB := Aside0.mk (Below.refl w.heap.size w)
 have H : ((paybooklaw06_awake.f k).bind fun t169 => (if t169 = true then (if (l2.length : Int) > 200 then (paybooklaw06_SealTurns.j0 k a0 a1 l2 a3 a4 a5 true) else (paybooklaw06_SealTurns.j0 k a0 a1 l2 a3 a4 a5 (a4 == 0))) else (paybooklaw06_SealTurns.j0 k a0 a1 l2 a3 a4 a5 true))) = some true := h
 clear h
 have HC7 := Aside0.mk H
 clear H
 go_enter Tryd.func5, Tryd.ntmps5
 go_upto_region 1 with (fail)
 go_cut [32] (fun v32 wc => ∃ (kq : Nat) (x32_6 : Bool), v32 = .bool x32_6 ∧ Aside0 (paybooklaw06_SealTurns.j0 kq a0 a1 l2 a3 a4 a5 x32_6 = some true) ∧ Aside0 (kq ≤ k) ∧ Aside0 (Below w.heap.size w wc))
 case first =>
  have H := HC7.out
  clear HC7
  replace H := Option.bind_eq_some_iff.mp H
  obtain ⟨t169, A80, H⟩ := H
  replace H : (if t169 = true then (if (l2.length : Int) > 200 then (paybooklaw06_SealTurns.j0 k a0 a1 l2 a3 a4 a5 true) else (paybooklaw06_SealTurns.j0 k a0 a1 l2 a3 a4 a5 (a4 == 0))) else (paybooklaw06_SealTurns.j0 k a0 a1 l2 a3 a4 a5 true)) = some true := H
  have A8 := Aside0.mk A80
  clear A80
  by_cases c9 : t169 = true
  ·subst c9
   have H1 : (if (l2.length : Int) > 200 then (paybooklaw06_SealTurns.j0 k a0 a1 l2 a3 a4 a5 true) else (paybooklaw06_SealTurns.j0 k a0 a1 l2 a3 a4 a5 (a4 == 0))) = some true := by rw [if_pos rfl] at H; exact H
   clear H
   have H := H1
   clear H1
   by_cases c10 : (l2.length : Int) > 200
   ·rw [if_pos c10] at H
    have c10b0 : decide (200 < (l2.length : Int)) = true := decide_eq_true c10
    have c10b1 : decide (200 < l2.length) = true := decide_eq_true (by omega)
    clear c10
    (first | (generalize hg_ : decide (200 < (l2.length : Int)) = bg_ at *; subst c10b0; have c10b0 := hg_; clear hg_) | rw [c10b0] | (simp only [i64_w, i32_w]; rw [c10b0]) | skip)
    have H' := Aside0.mk H
    clear H
    go_wp2_with (first | (go_at_call 8; (with_reducible refine (paybooklaw06_awake.calls k  true _ ?side1 A8.out).mono ?_); (case side1 => repeat (first | exact (Kd.C_below HRG0.out HB.out) | exact HRG0.out | (with_reducible refine Kd.C_alloc ?_ _) | (with_reducible refine Kd.C_drewN ?_ _) | (with_reducible refine Kd.C_drew ?_))); rintro e w11 ⟨rfl, hb⟩; have n0_ := Aside0.mk (below_step (by repeat (first | (with_reducible first | exact HB.out | apply below_alloc | apply pw_below_drewN | apply below_drew1) | exact HB.out)) hb); clear HB; have HB := n0_; clear n0_; (try clear hb); (try clear hb2); (try clear hk); (try clear hi)))
    go_meet
    case rel => exact ⟨_, (true), (by first | rfl | (simp; done) | (simp [*]; done)), H', ⟨by first | omega | exact Nat.le_refl _⟩, ⟨by repeat (first | (with_reducible first | exact HB.out | apply below_alloc | apply pw_below_drewN | apply below_drew1) | exact HB.out)⟩⟩
   ·rw [if_neg c10] at H
    have c10b0 : decide (200 < (l2.length : Int)) = false := decide_eq_false c10
    have c10b1 : decide (200 < l2.length) = false := decide_eq_false (by omega)
    clear c10
    (first | (generalize hg_ : decide (200 < (l2.length : Int)) = bg_ at *; subst c10b0; have c10b0 := hg_; clear hg_) | rw [c10b0] | (simp only [i64_w, i32_w]; rw [c10b0]) | skip)
    have H' := Aside0.mk H
    clear H
    go_wp2_with (first | (go_at_call 8; (with_reducible refine (paybooklaw06_awake.calls k  true _ ?side1 A8.out).mono ?_); (case side1 => repeat (first | exact (Kd.C_below HRG0.out HB.out) | exact HRG0.out | (with_reducible refine Kd.C_alloc ?_ _) | (with_reducible refine Kd.C_drewN ?_ _) | (with_reducible refine Kd.C_drew ?_))); rintro e w12 ⟨rfl, hb⟩; have n0_ := Aside0.mk (below_step (by repeat (first | (with_reducible first | exact HB.out | apply below_alloc | apply pw_below_drewN | apply below_drew1) | exact HB.out)) hb); clear HB; have HB := n0_; clear n0_; (try clear hb); (try clear hb2); (try clear hk); (try clear hi)))
    go_meet
    case rel => exact ⟨_, ((a4 == 0)), (by first | rfl | (simp; done) | (simp [*]; done)), H', ⟨by first | omega | exact Nat.le_refl _⟩, ⟨by repeat (first | (with_reducible first | exact HB.out | apply below_alloc | apply pw_below_drewN | apply below_drew1) | exact HB.out)⟩⟩
  ·replace c9 := Bool.eq_false_iff.mpr c9
   subst c9
   have H1 : (paybooklaw06_SealTurns.j0 k a0 a1 l2 a3 a4 a5 true) = some true := by rw [if_neg (show ¬ (false = true) by decide)] at H; exact H
   clear H
   have H := H1
   clear H1
   have H' := Aside0.mk H
   clear H
   go_wp2_with (first | (go_at_call 8; (with_reducible refine (paybooklaw06_awake.calls k  false _ ?side1 A8.out).mono ?_); (case side1 => repeat (first | exact (Kd.C_below HRG0.out HB.out) | exact HRG0.out | (with_reducible refine Kd.C_alloc ?_ _) | (with_reducible refine Kd.C_drewN ?_ _) | (with_reducible refine Kd.C_drew ?_))); rintro e w13 ⟨rfl, hb⟩; have n0_ := Aside0.mk (below_step (by repeat (first | (with_reducible first | exact HB.out | apply below_alloc | apply pw_below_drewN | apply below_drew1) | exact HB.out)) hb); clear HB; have HB := n0_; clear n0_; (try clear hb); (try clear hb2); (try clear hk); (try clear hi)))
   go_meet
   case rel => exact ⟨_, (true), (by first | rfl | (simp; done) | (simp [*]; done)), H', ⟨by first | omega | exact Nat.le_refl _⟩, ⟨by repeat (first | (with_reducible first | exact HB.out | apply below_alloc | apply pw_below_drewN | apply below_drew1) | exact HB.out)⟩⟩
 case rest =>
  clear HC7
  try clear c1
  try clear c2
  try clear p2
  try clear c5
  try clear c9
  try clear c10
  try clear c10b0
  try clear c10b1
  obtain ⟨kq, x32_6, rfl, HA, HJ6, HB⟩ := hcut
  cases kq with
  | zero => exact absurd HA.out (by simp [paybooklaw06_SealTurns.j0])
  | succ kj6 =>
   have H := HA.out
   clear HA
   simp only [paybooklaw06_SealTurns.j0] at H
   by_cases c14 : x32_6 = true
   ·subst c14
    have H1 : ((paybooklaw06_awake.f kj6).bind fun t170 => (some t170)) = some true := by rw [if_pos rfl] at H; exact H
    clear H
    have H := H1
    clear H1
    replace H := Option.bind_eq_some_iff.mp H
    obtain ⟨t170, A150, H⟩ := H
    replace H : (some t170) = some true := H
    have A15 := Aside0.mk A150
    clear A150
    have HT_ := Option.some.inj H
    clear H
    (try (have HT_z_ := HT_; simp only [beq_true, beq_false, true_beq, false_beq, Bool.not_eq_true', Bool.not_eq_false', Bool.not_true, Bool.not_false] at HT_z_))
    go_wp2_with (first | (go_at_call 8; (with_reducible refine (paybooklaw06_awake.calls kj6  t170 _ ?side1 A15.out).mono ?_); (case side1 => repeat (first | exact (Kd.C_below HRG0.out HB.out) | exact HRG0.out | (with_reducible refine Kd.C_alloc ?_ _) | (with_reducible refine Kd.C_drewN ?_ _) | (with_reducible refine Kd.C_drew ?_))); rintro e w16 ⟨rfl, hb⟩; have n0_ := Aside0.mk (below_step (by repeat (first | (with_reducible first | exact HB.out | apply below_alloc | apply pw_below_drewN | apply below_drew1) | exact HB.out)) hb); clear HB; have HB := n0_; clear n0_; (try clear hb); (try clear hb2); (try clear hk); (try clear hi)))
    go_ret
    exact ⟨by first | rfl | (simp [errW_none, errW_some] <;> rfl) | (simp [*, errW_none, errW_some] <;> rfl), by repeat (first | (with_reducible first | exact HB.out | apply below_alloc | apply pw_below_drewN | apply below_drew1) | exact HB.out)⟩
   ·replace c14 := Bool.eq_false_iff.mpr c14
    subst c14
    have H1 : ((seal_Close.f kj6 a0 a1 l2).bind fun t171 => (if (t171.length : Int) = 0 then (none) else (if ([] : List Int).length + t171.length < 140737488355328 then ((some (([] : List Int) ++ t171 : List Int)).bind fun y174 => (if 0 ≤ (Int.tmod (wrap64 (a3)) (t171.length : Int)) then (if (Int.tmod (wrap64 (a3)) (t171.length : Int)) < (y174.length : Int) then ((seal_Open.f kj6 a0 a1 (y174.set ((Int.tmod (wrap64 (a3)) (t171.length : Int)) : Int).toNat (Go.bits .xor .u8 (rd y174 (Int.tmod (wrap64 (a3)) (t171.length : Int))) a4))).bind fun bt179 => (if 0 ≤ (Int.tmod (wrap64 (a5)) (t171.length : Int)) then (if (Int.tmod (wrap64 (a5)) (t171.length : Int)) ≤ (t171.length : Int) then ((seal_Open.f kj6 a0 a1 (t171.take ((Int.tmod (wrap64 (a5)) (t171.length : Int)) : Int).toNat)).bind fun bt188 => (if bt179.2.2 = 0 then (if (Int.tmod (wrap64 (a3)) (t171.length : Int)) < 4 then (if bt179.2.1 < (t171.length : Int) then (some (bt188.2.2 == 5)) else (some false)) else (some false)) else (some (bt188.2.2 == 5)))) else (none)) else (none))) else (none)) else (none))) else (none)))) = some true := by rw [if_neg (show ¬ (false = true) by decide)] at H; exact H
    clear H
    have H := H1
    clear H1
    replace H := Option.bind_eq_some_iff.mp H
    obtain ⟨t171, A170, H⟩ := H
    replace H : (if (t171.length : Int) = 0 then (none) else (if ([] : List Int).length + t171.length < 140737488355328 then ((some (([] : List Int) ++ t171 : List Int)).bind fun y174 => (if 0 ≤ (Int.tmod (wrap64 (a3)) (t171.length : Int)) then (if (Int.tmod (wrap64 (a3)) (t171.length : Int)) < (y174.length : Int) then ((seal_Open.f kj6 a0 a1 (y174.set ((Int.tmod (wrap64 (a3)) (t171.length : Int)) : Int).toNat (Go.bits .xor .u8 (rd y174 (Int.tmod (wrap64 (a3)) (t171.length : Int))) a4))).bind fun bt179 => (if 0 ≤ (Int.tmod (wrap64 (a5)) (t171.length : Int)) then (if (Int.tmod (wrap64 (a5)) (t171.length : Int)) ≤ (t171.length : Int) then ((seal_Open.f kj6 a0 a1 (t171.take ((Int.tmod (wrap64 (a5)) (t171.length : Int)) : Int).toNat)).bind fun bt188 => (if bt179.2.2 = 0 then (if (Int.tmod (wrap64 (a3)) (t171.length : Int)) < 4 then (if bt179.2.1 < (t171.length : Int) then (some (bt188.2.2 == 5)) else (some false)) else (some false)) else (some (bt188.2.2 == 5)))) else (none)) else (none))) else (none)) else (none))) else (none))) = some true := H
    have A17 := Aside0.mk A170
    clear A170
    by_cases c18 : (t171.length : Int) = 0
    ·rw [if_pos c18] at H
     exact absurd H (by simp)
    ·rw [if_neg c18] at H
     have c18b0 : ((t171.length : Int) == 0) = false := beq_eq_false_iff_ne.mpr c18
     have c18b1 : ((t171.length : Int) != 0) = true := bne_iff_ne.mpr c18
     have c18b2 : ¬ (t171 = []) := fun h_ => c18 (by rw [h_]; rfl)
     by_cases c19 : ([] : List Int).length + t171.length < 140737488355328
     ·rw [if_pos c19] at H
      have LMc19 := Aside0.mk c19
      clear c19
      obtain ⟨y174, hy174⟩ : ∃ y_ : List Int, y_ = (([] : List Int) ++ t171) := ⟨_, rfl⟩
      replace H : (if 0 ≤ (Int.tmod (wrap64 (a3)) (t171.length : Int)) then (if (Int.tmod (wrap64 (a3)) (t171.length : Int)) < (y174.length : Int) then ((seal_Open.f kj6 a0 a1 (y174.set ((Int.tmod (wrap64 (a3)) (t171.length : Int)) : Int).toNat (Go.bits .xor .u8 (rd y174 (Int.tmod (wrap64 (a3)) (t171.length : Int))) a4))).bind fun bt179 => (if 0 ≤ (Int.tmod (wrap64 (a5)) (t171.length : Int)) then (if (Int.tmod (wrap64 (a5)) (t171.length : Int)) ≤ (t171.length : Int) then ((seal_Open.f kj6 a0 a1 (t171.take ((Int.tmod (wrap64 (a5)) (t171.length : Int)) : Int).toNat)).bind fun bt188 => (if bt179.2.2 = 0 then (if (Int.tmod (wrap64 (a3)) (t171.length : Int)) < 4 then (if bt179.2.1 < (t171.length : Int) then (some (bt188.2.2 == 5)) else (some false)) else (some false)) else (some (bt188.2.2 == 5)))) else (none)) else (none))) else (none)) else (none)) = some true := by first | (rw [hy174]; with_reducible exact H) | (have H2_ := (Option.bind_some _ _).symm.trans H; rw [hy174]; with_reducible exact H2_) | (have H2_ := (Option.bind_some _ _).symm.trans H; with_reducible exact H2_) | with_reducible exact H | (rw [hy174]; exact H) | exact H
      have Ny174 := Aside0.mk hy174
      clear hy174
      obtain ⟨ji20, hji20⟩ : ∃ j_ : Int, (Int.tmod (wrap64 (a3)) (t171.length : Int)) = j_ := ⟨_, rfl⟩
      replace H : (if 0 ≤ (ji20) then (if (ji20) < (y174.length : Int) then ((seal_Open.f kj6 a0 a1 (y174.set ((ji20) : Int).toNat (Go.bits .xor .u8 (rd y174 (ji20)) a4))).bind fun bt179 => (if 0 ≤ (Int.tmod (wrap64 (a5)) (t171.length : Int)) then (if (Int.tmod (wrap64 (a5)) (t171.length : Int)) ≤ (t171.length : Int) then ((seal_Open.f kj6 a0 a1 (t171.take ((Int.tmod (wrap64 (a5)) (t171.length : Int)) : Int).toNat)).bind fun bt188 => (if bt179.2.2 = 0 then (if (ji20) < 4 then (if bt179.2.1 < (t171.length : Int) then (some (bt188.2.2 == 5)) else (some false)) else (some false)) else (some (bt188.2.2 == 5)))) else (none)) else (none))) else (none)) else (none)) = some true := by first | (rw [hji20] at H; exact H) | (simp only [hji20] at H ⊢; exact H)
      (try rw [hji20] at A17)
      by_cases c21 : 0 ≤ (ji20)
      ·rw [if_pos c21] at H
       have c21b0 : decide (0 ≤ (ji20)) = true := decide_eq_true c21
       clear c21
       by_cases c22 : (ji20) < (y174.length : Int)
       ·rw [if_pos c22] at H
        have c22b0 : decide ((ji20) < (y174.length : Int)) = true := decide_eq_true c22
        clear c22
        obtain ⟨y178, hy178⟩ : ∃ y_ : List Int, y_ = (y174.set ((ji20) : Int).toNat (Go.bits .xor .u8 (rd y174 (ji20)) a4)) := ⟨_, rfl⟩
        replace H : ((seal_Open.f kj6 a0 a1 y178).bind fun bt179 => (if 0 ≤ (Int.tmod (wrap64 (a5)) (t171.length : Int)) then (if (Int.tmod (wrap64 (a5)) (t171.length : Int)) ≤ (t171.length : Int) then ((seal_Open.f kj6 a0 a1 (t171.take ((Int.tmod (wrap64 (a5)) (t171.length : Int)) : Int).toNat)).bind fun bt188 => (if bt179.2.2 = 0 then (if (ji20) < 4 then (if bt179.2.1 < (t171.length : Int) then (some (bt188.2.2 == 5)) else (some false)) else (some false)) else (some (bt188.2.2 == 5)))) else (none)) else (none))) = some true := by first | (rw [hy178]; with_reducible exact H) | (have H2_ := (Option.bind_some _ _).symm.trans H; rw [hy178]; with_reducible exact H2_) | (have H2_ := (Option.bind_some _ _).symm.trans H; with_reducible exact H2_) | with_reducible exact H | (rw [hy178]; exact H) | exact H
        have Ny178 := Aside0.mk hy178
        clear hy178
        replace H := Option.bind_eq_some_iff.mp H
        obtain ⟨⟨t179, t180, t181⟩, A240, H⟩ := H
        replace H : (if 0 ≤ (Int.tmod (wrap64 (a5)) (t171.length : Int)) then (if (Int.tmod (wrap64 (a5)) (t171.length : Int)) ≤ (t171.length : Int) then ((seal_Open.f kj6 a0 a1 (t171.take ((Int.tmod (wrap64 (a5)) (t171.length : Int)) : Int).toNat)).bind fun bt188 => (if t181 = 0 then (if (ji20) < 4 then (if t180 < (t171.length : Int) then (some (bt188.2.2 == 5)) else (some false)) else (some false)) else (some (bt188.2.2 == 5)))) else (none)) else (none)) = some true := H
        have A24 := Aside0.mk A240
        clear A240
        obtain ⟨ji25, hji25⟩ : ∃ j_ : Int, (Int.tmod (wrap64 (a5)) (t171.length : Int)) = j_ := ⟨_, rfl⟩
        replace H : (if 0 ≤ (ji25) then (if (ji25) ≤ (t171.length : Int) then ((seal_Open.f kj6 a0 a1 (t171.take ((ji25) : Int).toNat)).bind fun bt188 => (if t181 = 0 then (if (ji20) < 4 then (if t180 < (t171.length : Int) then (some (bt188.2.2 == 5)) else (some false)) else (some false)) else (some (bt188.2.2 == 5)))) else (none)) else (none)) = some true := by first | (rw [hji25] at H; exact H) | (simp only [hji25] at H ⊢; exact H)
        (try rw [hji25] at A17)
        (try rw [hji25] at A24)
        by_cases c26 : 0 ≤ (ji25)
        ·rw [if_pos c26] at H
         have c26b0 := eq_true c26
         have c26b1 : decide (0 ≤ (ji25)) = true := decide_eq_true c26
         clear c26
         by_cases c27 : (ji25) ≤ (t171.length : Int)
         ·rw [if_pos c27] at H
          have c27b0 := eq_true c27
          have c27b1 : decide ((ji25) ≤ (t171.length : Int)) = true := decide_eq_true c27
          clear c27
          obtain ⟨y184, hy184⟩ : ∃ y_ : List Int, y_ = (t171.take ((ji25) : Int).toNat) := ⟨_, rfl⟩
          replace H : ((seal_Open.f kj6 a0 a1 y184).bind fun bt188 => (if t181 = 0 then (if (ji20) < 4 then (if t180 < (t171.length : Int) then (some (bt188.2.2 == 5)) else (some false)) else (some false)) else (some (bt188.2.2 == 5)))) = some true := by first | (rw [hy184]; with_reducible exact H) | (have H2_ := (Option.bind_some _ _).symm.trans H; rw [hy184]; with_reducible exact H2_) | (have H2_ := (Option.bind_some _ _).symm.trans H; with_reducible exact H2_) | with_reducible exact H | (rw [hy184]; exact H) | exact H
          have Ny184 := Aside0.mk hy184
          clear hy184
          replace H := Option.bind_eq_some_iff.mp H
          obtain ⟨⟨t188, t189, t190⟩, A280, H⟩ := H
          replace H : (if t181 = 0 then (if (ji20) < 4 then (if t180 < (t171.length : Int) then (some (t190 == 5)) else (some false)) else (some false)) else (some (t190 == 5))) = some true := H
          have A28 := Aside0.mk A280
          clear A280
          by_cases c29 : t181 = 0
          ·rw [if_pos c29] at H
           have c29b0 : (t181 == 0) = true := beq_iff_eq.mpr c29
           have c29b1 : (t181 != 0) = false := bne_eq_false_iff_eq.mpr c29
           clear c29
           by_cases c30 : (ji20) < 4
           ·rw [if_pos c30] at H
            have c30b0 : decide ((ji20) < 4) = true := decide_eq_true c30
            clear c30
            by_cases c31 : t180 < (t171.length : Int)
            ·rw [if_pos c31] at H
             have c31b0 : decide (t180 < (t171.length : Int)) = true := decide_eq_true c31
             clear c31
             have HT_ := Option.some.inj H
             clear H
             (try (have HT_z_ := HT_; simp only [beq_true, beq_false, true_beq, false_beq, Bool.not_eq_true', Bool.not_eq_false', Bool.not_true, Bool.not_false] at HT_z_))
             go_wp2_with (first | ((with_reducible refine gate_callee (f := 13) rfl ?_); refine goesL_ (some 37) rfl rfl Tryd.func13 (by kernel_rfl) rfl #[.int .u32 a0, .int .u32 a1, .slice A2 l2.length c2] rfl (by (try simp only [List.map_toArray, List.map_cons, List.map_nil]); first | done | rfl | (simp only [List.length_drop, List.length_take]; rfl)) ?_; (with_reducible refine (seal_Close.calls kj6 a0 a1 _ _ l2 t171 _ ?side1 ?side2 ?side3 A17.out).mono ?_); (case side1 => repeat (first | exact (Kd.C_below HR2.out HB.out) | exact HR2.out | (with_reducible refine Kd.C_alloc ?_ _) | (with_reducible refine Kd.C_drewN ?_ _) | (with_reducible refine Kd.C_drew ?_))); (case side2 => exact HC2.out); (case side3 => repeat (first | exact (Kd.C_below HRG0.out HB.out) | exact HRG0.out | (with_reducible refine Kd.C_alloc ?_ _) | (with_reducible refine Kd.C_drewN ?_ _) | (with_reducible refine Kd.C_drew ?_))); rintro e w32 ⟨v172, rfl, ho0, hb⟩; refine ⟨_, rfl, ?_⟩; have n0_ := Aside0.mk (Kd.R_lower ho0 (below_size (by repeat (first | (with_reducible first | exact HB.out | apply below_alloc | apply pw_below_drewN | apply below_drew1) | exact HB.out)))); have n1_ := Aside0.mk (below_step (by repeat (first | (with_reducible first | exact HB.out | apply below_alloc | apply pw_below_drewN | apply below_drew1) | exact HB.out)) hb); clear HB; have HO173 := n0_; have HB := n1_; clear n0_ n1_; (try clear hb); (try clear hb2); (try clear hk); (try clear hi); (try clear ho0); obtain ⟨Ao33, co33, eo33⟩ := Kd.R_slice HO173.out; subst eo33) | ((with_reducible refine gate_builtin (b := .append) (xs := #[.const (.slice none 0 0), .tmp 43]) rfl ?_); (try (refine gate_guard (by rfl) ?_; dsimp only)); at_builtin; refine Kd.R_append_rows (Kd.int .u8) (w0 := w) w.heap.size rfl (.const (.slice none 0 0)) (.tmp 43) 22 5 (.int .u8 0) 1 rfl Tryd.underlying22 info5 rfl (by decide) (by omega) (.slice none 0 0) ([] : List Int) t171 _ _ _ (fun k_ => some k_ ≠ (.slice Ao33 t171.length co33 : Value).ownBlock) (fun _ => False) rfl rfl ?aO ?aR (fun _ _ h => h) (fun _ h => h.elim) ?aF ?aB ?aS ?aL ?_; (case aR => repeat (first | exact (Kd.R_reads' HO173.out).2.2 | (with_reducible refine Kd.C_alloc ?_ _) | (with_reducible refine Kd.C_drewN ?_ _) | (with_reducible refine Kd.C_drew ?_))); (case aB => exact (by repeat (first | (with_reducible first | exact HB.out | apply below_alloc | apply pw_below_drewN | apply below_drew1) | exact HB.out))); (case aF => exact (fun k_ hk => Kd.fresh' (Kd.R_lt (by (with_reducible repeat (first | apply Kd.R_alloc | apply Kd.R_drewN | apply Kd.R_drew)); exact HO173.out)) k_ hk)); (case aO => exact ((Kd.R_nil _ _ _ _ (fun k_ => some k_ ≠ (.slice Ao33 t171.length co33 : Value).ownBlock)))); (case aS => exact (below_size (by repeat (first | (with_reducible first | exact HB.out | apply below_alloc | apply pw_below_drewN | apply below_drew1) | exact HB.out)))); (case aL => have := LMc19.out; omega); intro v175 w34 ho hb hg hat; rw [← Ny174.out] at ho; have n0_ := Aside0.mk (Kd.R_after (Kd.R_apart_nil (by (with_reducible repeat (first | apply Kd.R_alloc | apply Kd.R_drewN | apply Kd.R_drew)); exact HO173.out)) hg hat); have n1_ := Aside0.mk (hb); have n2_ := Aside0.mk (ho); clear HO173; clear HB; have HO173 := n0_; have HB := n1_; have HO176 := n2_; clear n0_ n1_ n2_; clear ho hb hg hat; obtain ⟨Ao35, co35, eo35⟩ := Kd.R_slice HO176.out; subst eo35; have p177 : 0 ≤ ((ji20) : Int) := of_decide_eq_true (by first | (with_reducible assumption) | assumption); have q177 : (ji20) < (y174.length : Int) := of_decide_eq_true (by first | (with_reducible assumption) | assumption); obtain ⟨ad177, e177, hx177_0⟩ := Kd.at_int (Kd.R_reads' HO176.out).2.2 (ji20) p177 q177; cases e177; replace p177 := eq_true p177; replace q177 := eq_true q177; have p23 : 0 ≤ ((ji20) : Int) := of_decide_eq_true (by first | (with_reducible assumption) | assumption); have q23 : ((ji20) : Int) < ((y174.length : Int) : Int) := of_decide_eq_true (by first | (with_reducible assumption) | assumption); obtain ⟨go23, co23, eo23, gb23, gl23, cl23, HG23⟩ := Kd.R_form HO176.out (by omega); (first | cases eo23 | (injection eo23 with ea_ en_ ec_; (first | subst ea_ | (injection ea_ with ea_; subst ea_)); subst ec_; clear en_)); have GB23 := Aside0.mk gb23; have GG23 := Aside0.mk HG23; clear gb23 gl23 HG23; (first | simp only [add_plain] at hx177_0 | skip); obtain ⟨hx23_0, hf23_0⟩ := Kd.R_celln 0 HO176.out ((ji20) : Int) p23 q23; replace p23 := eq_true p23; replace q23 := eq_true q23; obtain ⟨hy36_, hz36_⟩ := Kd.R_celln 0 HO176.out ((ji20) : Int) (of_decide_eq_true (by first | (with_reducible assumption) | assumption)) (of_decide_eq_true (by first | (with_reducible assumption) | assumption)); have HP36 := Kd.R_putg HO176.out ((ji20) : Int) (Go.bits .xor .u8 (rd y174 (ji20)) a4)) | ((with_reducible refine gate_store (t := 5) (p := 53) rfl ?_); refine store_event (t := 5) (p := 53) (v := ?vo_w37) (w1 := (w34.setCell ⟨go23, ((ji20) : Int).toNat, none⟩ (.int .u8 (Go.bits .xor .u8 (rd y174 (ji20)) a4)))) ?hg ?ho ?hn ?hr ?_; (case ho => rfl); (case hg => rfl); (case hn => rfl); (case hr => first | (go_simp; done) | (go_simp; rfl)); intro w37 hw; have hg : w34.grownBy w37 (some go23) := (by rw [hw]; exact HP36.2); have hp_ : Kd.R (Kd.int .u8) 5 w37 w.heap.size (fun k_ => some k_ ≠ (.slice Ao33 t171.length co33 : Value).ownBlock) (.slice (some ⟨go23, 0, none⟩) y174.length co35) y178 := (by rw [hw, Ny178.out]; exact HP36.1); clear HP36; have n0_ := Aside0.mk (Kd.R_after (v := (.slice (some ⟨go23, 0, none⟩) y174.length co35)) (v1 := (.slice (some ⟨go23, 0, none⟩) y174.length co35)) (ok := (fun _ => True)) (by (with_reducible repeat (first | apply Kd.R_alloc | apply Kd.R_drewN | apply Kd.R_drew)); exact HO173.out) hg (.inl rfl)); have n1_ := Aside0.mk (hp_); have n2_ := Aside0.mk ((by rw [hw]; exact below_set (HB.out) GB23.out : Below w.heap.size w w37)); clear HO173; clear HO176; clear HB; have HO173 := n0_; have HO176 := n1_; have HB := n2_; clear n0_ n1_ n2_; clear hg hw hp_) | ((with_reducible refine gate_callee (f := 12) rfl ?_); refine goesL_ (some 58) rfl rfl Tryd.func12 (by kernel_rfl) rfl #[.int .u32 a0, .int .u32 a1, .slice (some ⟨go23, 0, none⟩) y178.length co35] rfl (by (try simp only [List.map_toArray, List.map_cons, List.map_nil]); first | done | (rw [show y178.length = y174.length from (Kd.R_reads' HO176.out).1.symm] <;> rfl) | rfl | (simp only [List.length_drop, List.length_take]; rfl)) ?_; (with_reducible refine (seal_Open.calls kj6 a0 a1 _ _ y178 t179 t180 t181 _ ?side1 ?side2 ?side3 A24.out).mono ?_); (case side1 => repeat (first | exact (Kd.R_reads' HO176.out).2.2 | (with_reducible refine Kd.C_alloc ?_ _) | (with_reducible refine Kd.C_drewN ?_ _) | (with_reducible refine Kd.C_drew ?_))); (case side2 => rw [show y178.length = y174.length from (Kd.R_reads' HO176.out).1.symm]; exact (Kd.R_reads' HO176.out).2.1); (case side3 => repeat (first | exact (Kd.C_below HRG0.out HB.out) | exact HRG0.out | (with_reducible refine Kd.C_alloc ?_ _) | (with_reducible refine Kd.C_drewN ?_ _) | (with_reducible refine Kd.C_drew ?_))); rintro e w38 ⟨v182, rfl, ho0, hb⟩; refine ⟨_, rfl, ?_⟩; have n0_ := Aside0.mk (Kd.R_elder' (by (with_reducible repeat (first | apply Kd.R_alloc | apply Kd.R_drewN | apply Kd.R_drew)); exact HO173.out) (Kd.R_base ho0) hb); have n1_ := Aside0.mk (Kd.R_elder' (by (with_reducible repeat (first | apply Kd.R_alloc | apply Kd.R_drewN | apply Kd.R_drew)); exact HO176.out) (Kd.R_base ho0) hb); have n2_ := Aside0.mk (Kd.R_lower (Kd.R_new' (Kd.R_new' ho0 (Kd.R_lt (by (with_reducible repeat (first | apply Kd.R_alloc | apply Kd.R_drewN | apply Kd.R_drew)); exact HO173.out))) (Kd.R_lt (by (with_reducible repeat (first | apply Kd.R_alloc | apply Kd.R_drewN | apply Kd.R_drew)); exact HO176.out))) (below_size (by repeat (first | (with_reducible first | exact HB.out | apply below_alloc | apply pw_below_drewN | apply below_drew1) | exact HB.out)))); have n3_ := Aside0.mk (below_step (by repeat (first | (with_reducible first | exact HB.out | apply below_alloc | apply pw_below_drewN | apply below_drew1) | exact HB.out)) hb); clear HO173; clear HO176; clear HB; have HO173 := n0_; have HO176 := n1_; have HO183 := n2_; have HB := n3_; clear n0_ n1_ n2_ n3_; (try clear hb); (try clear hb2); (try clear hk); (try clear hi); (try clear ho0); have q39 : ((ji25) : Int) ≤ ((t171.length : Int) : Int) := of_decide_eq_true (by first | (with_reducible assumption) | assumption); obtain ⟨i039, hi039, _, hsz39, _⟩ := info_parts info5; have hroom39 : t171.length ≤ co33 := (Kd.R_reads' HO173.out).2.1; have hC39 : Kd.C (Kd.int .u8) _ Ao33 t171.length t171 := (Kd.R_reads' HO173.out).2.2; have hcut39 := cut_to (P := Tryd.prog) 22 5 .i64 Tryd.underlying22 hi039 Ao33 t171.length co33 (ji25) (of_decide_eq_true (by first | (with_reducible assumption) | assumption)) q39 hroom39; have hr39 := Kd.C_take (m := ((ji25) : Int).toNat) hC39 (by omega); have hy39 : y184.length = ((ji25) : Int).toNat := (by rw [Ny184.out, List.length_take]; omega); rw [← Ny184.out] at hr39; rw [← hy39] at hcut39; have HR187 := Aside0.mk hr39; have HC187 := Aside0.mk (show y184.length ≤ co33 from by omega); clear hr39 hC39 hroom39 hi039 hsz39; have KY39 := Aside0.mk hy39; clear hy39; have KL39 := Aside0.mk (show ((ji25) : Int).toNat ≤ t171.length from by omega); replace q39 := eq_true q39) | ((with_reducible refine gate_callee (f := 12) rfl ?_); refine goesL_ (some 72) rfl rfl Tryd.func12 (by kernel_rfl) rfl #[.int .u32 a0, .int .u32 a1, .slice Ao33 y184.length co33] rfl (by (try simp only [List.map_toArray, List.map_cons, List.map_nil]); first | done | rfl | (simp only [List.length_drop, List.length_take]; rfl)) ?_; (with_reducible refine (seal_Open.calls kj6 a0 a1 _ _ y184 t188 t189 t190 _ ?side1 ?side2 ?side3 A28.out).mono ?_); (case side1 => repeat (first | exact (by repeat (first | (with_reducible exact HR187.out) | (with_reducible refine Kd.C_alloc ?_ _) | (with_reducible refine Kd.C_drewN ?_ _) | (with_reducible refine Kd.C_drew ?_) | exact HR187.out)) | (with_reducible refine Kd.C_alloc ?_ _) | (with_reducible refine Kd.C_drewN ?_ _) | (with_reducible refine Kd.C_drew ?_))); (case side2 => exact HC187.out); (case side3 => repeat (first | exact (Kd.C_below HRG0.out HB.out) | exact HRG0.out | (with_reducible refine Kd.C_alloc ?_ _) | (with_reducible refine Kd.C_drewN ?_ _) | (with_reducible refine Kd.C_drew ?_))); rintro e w40 ⟨v191, rfl, ho0, hb⟩; refine ⟨_, rfl, ?_⟩; have n0_ := Aside0.mk (Kd.R_elder' (by (with_reducible repeat (first | apply Kd.R_alloc | apply Kd.R_drewN | apply Kd.R_drew)); exact HO173.out) (Kd.R_base ho0) hb); have n1_ := Aside0.mk (Kd.R_elder' (by (with_reducible repeat (first | apply Kd.R_alloc | apply Kd.R_drewN | apply Kd.R_drew)); exact HO176.out) (Kd.R_base ho0) hb); have n2_ := Aside0.mk (Kd.R_elder' (by (with_reducible repeat (first | apply Kd.R_alloc | apply Kd.R_drewN | apply Kd.R_drew)); exact HO183.out) (Kd.R_base ho0) hb); have n3_ := Aside0.mk (Kd.R_lower (Kd.R_new' (Kd.R_new' (Kd.R_new' ho0 (Kd.R_lt (by (with_reducible repeat (first | apply Kd.R_alloc | apply Kd.R_drewN | apply Kd.R_drew)); exact HO173.out))) (Kd.R_lt (by (with_reducible repeat (first | apply Kd.R_alloc | apply Kd.R_drewN | apply Kd.R_drew)); exact HO176.out))) (Kd.R_lt (by (with_reducible repeat (first | apply Kd.R_alloc | apply Kd.R_drewN | apply Kd.R_drew)); exact HO183.out))) (below_size (by repeat (first | (with_reducible first | exact HB.out | apply below_alloc | apply pw_below_drewN | apply below_drew1) | exact HB.out)))); have n4_ := Aside0.mk (Kd.C_below (by repeat (first | (with_reducible exact HR187.out) | (with_reducible refine Kd.C_alloc ?_ _) | (with_reducible refine Kd.C_drewN ?_ _) | (with_reducible refine Kd.C_drew ?_) | exact HR187.out)) hb); have n5_ := Aside0.mk (below_step (by repeat (first | (with_reducible first | exact HB.out | apply below_alloc | apply pw_below_drewN | apply below_drew1) | exact HB.out)) hb); clear HO173; clear HO176; clear HO183; clear HR187; clear HB; have HO173 := n0_; have HO176 := n1_; have HO183 := n2_; have HO192 := n3_; have HR187 := n4_; have HB := n5_; clear n0_ n1_ n2_ n3_ n4_ n5_; (try clear hb); (try clear hb2); (try clear hk); (try clear hi); (try clear ho0)))
             go_ret
             exact ⟨by first | rfl | (simp [errW_none, errW_some] <;> rfl) | (simp only [← hji20, ← hji25]; first | rfl | (simp [errW_none, errW_some] <;> rfl)) | (simp [*, errW_none, errW_some] <;> rfl), by repeat (first | (with_reducible first | exact HB.out | apply below_alloc | apply pw_below_drewN | apply below_drew1) | exact HB.out)⟩
            ·rw [if_neg c31] at H
             have c31b0 : decide (t180 < (t171.length : Int)) = false := decide_eq_false c31
             clear c31
             exact absurd H (by simp)
           ·rw [if_neg c30] at H
            have c30b0 : decide ((ji20) < 4) = false := decide_eq_false c30
            clear c30
            exact absurd H (by simp)
          ·rw [if_neg c29] at H
           have c29b0 : (t181 == 0) = false := beq_eq_false_iff_ne.mpr c29
           have c29b1 : (t181 != 0) = true := bne_iff_ne.mpr c29
           have HT_ := Option.some.inj H
           clear H
           (try (have HT_z_ := HT_; simp only [beq_true, beq_false, true_beq, false_beq, Bool.not_eq_true', Bool.not_eq_false', Bool.not_true, Bool.not_false] at HT_z_))
           go_wp2_with (first | ((with_reducible refine gate_callee (f := 13) rfl ?_); refine goesL_ (some 37) rfl rfl Tryd.func13 (by kernel_rfl) rfl #[.int .u32 a0, .int .u32 a1, .slice A2 l2.length c2] rfl (by (try simp only [List.map_toArray, List.map_cons, List.map_nil]); first | done | rfl | (simp only [List.length_drop, List.length_take]; rfl)) ?_; (with_reducible refine (seal_Close.calls kj6 a0 a1 _ _ l2 t171 _ ?side1 ?side2 ?side3 A17.out).mono ?_); (case side1 => repeat (first | exact (Kd.C_below HR2.out HB.out) | exact HR2.out | (with_reducible refine Kd.C_alloc ?_ _) | (with_reducible refine Kd.C_drewN ?_ _) | (with_reducible refine Kd.C_drew ?_))); (case side2 => exact HC2.out); (case side3 => repeat (first | exact (Kd.C_below HRG0.out HB.out) | exact HRG0.out | (with_reducible refine Kd.C_alloc ?_ _) | (with_reducible refine Kd.C_drewN ?_ _) | (with_reducible refine Kd.C_drew ?_))); rintro e w41 ⟨v172, rfl, ho0, hb⟩; refine ⟨_, rfl, ?_⟩; have n0_ := Aside0.mk (Kd.R_lower ho0 (below_size (by repeat (first | (with_reducible first | exact HB.out | apply below_alloc | apply pw_below_drewN | apply below_drew1) | exact HB.out)))); have n1_ := Aside0.mk (below_step (by repeat (first | (with_reducible first | exact HB.out | apply below_alloc | apply pw_below_drewN | apply below_drew1) | exact HB.out)) hb); clear HB; have HO173 := n0_; have HB := n1_; clear n0_ n1_; (try clear hb); (try clear hb2); (try clear hk); (try clear hi); (try clear ho0); obtain ⟨Ao42, co42, eo42⟩ := Kd.R_slice HO173.out; subst eo42) | ((with_reducible refine gate_builtin (b := .append) (xs := #[.const (.slice none 0 0), .tmp 43]) rfl ?_); (try (refine gate_guard (by rfl) ?_; dsimp only)); at_builtin; refine Kd.R_append_rows (Kd.int .u8) (w0 := w) w.heap.size rfl (.const (.slice none 0 0)) (.tmp 43) 22 5 (.int .u8 0) 1 rfl Tryd.underlying22 info5 rfl (by decide) (by omega) (.slice none 0 0) ([] : List Int) t171 _ _ _ (fun k_ => some k_ ≠ (.slice Ao42 t171.length co42 : Value).ownBlock) (fun _ => False) rfl rfl ?aO ?aR (fun _ _ h => h) (fun _ h => h.elim) ?aF ?aB ?aS ?aL ?_; (case aR => repeat (first | exact (Kd.R_reads' HO173.out).2.2 | (with_reducible refine Kd.C_alloc ?_ _) | (with_reducible refine Kd.C_drewN ?_ _) | (with_reducible refine Kd.C_drew ?_))); (case aB => exact (by repeat (first | (with_reducible first | exact HB.out | apply below_alloc | apply pw_below_drewN | apply below_drew1) | exact HB.out))); (case aF => exact (fun k_ hk => Kd.fresh' (Kd.R_lt (by (with_reducible repeat (first | apply Kd.R_alloc | apply Kd.R_drewN | apply Kd.R_drew)); exact HO173.out)) k_ hk)); (case aO => exact ((Kd.R_nil _ _ _ _ (fun k_ => some k_ ≠ (.slice Ao42 t171.length co42 : Value).ownBlock)))); (case aS => exact (below_size (by repeat (first | (with_reducible first | exact HB.out | apply below_alloc | apply pw_below_drewN | apply below_drew1) | exact HB.out)))); (case aL => have := LMc19.out; omega); intro v175 w43 ho hb hg hat; rw [← Ny174.out] at ho; have n0_ := Aside0.mk (Kd.R_after (Kd.R_apart_nil (by (with_reducible repeat (first | apply Kd.R_alloc | apply Kd.R_drewN | apply Kd.R_drew)); exact HO173.out)) hg hat); have n1_ := Aside0.mk (hb); have n2_ := Aside0.mk (ho); clear HO173; clear HB; have HO173 := n0_; have HB := n1_; have HO176 := n2_; clear n0_ n1_ n2_; clear ho hb hg hat; obtain ⟨Ao44, co44, eo44⟩ := Kd.R_slice HO176.out; subst eo44; have p177 : 0 ≤ ((ji20) : Int) := of_decide_eq_true (by first | (with_reducible assumption) | assumption); have q177 : (ji20) < (y174.length : Int) := of_decide_eq_true (by first | (with_reducible assumption) | assumption); obtain ⟨ad177, e177, hx177_0⟩ := Kd.at_int (Kd.R_reads' HO176.out).2.2 (ji20) p177 q177; cases e177; replace p177 := eq_true p177; replace q177 := eq_true q177; have p23 : 0 ≤ ((ji20) : Int) := of_decide_eq_true (by first | (with_reducible assumption) | assumption); have q23 : ((ji20) : Int) < ((y174.length : Int) : Int) := of_decide_eq_true (by first | (with_reducible assumption) | assumption); obtain ⟨go23, co23, eo23, gb23, gl23, cl23, HG23⟩ := Kd.R_form HO176.out (by omega); (first | cases eo23 | (injection eo23 with ea_ en_ ec_; (first | subst ea_ | (injection ea_ with ea_; subst ea_)); subst ec_; clear en_)); have GB23 := Aside0.mk gb23; have GG23 := Aside0.mk HG23; clear gb23 gl23 HG23; (first | simp only [add_plain] at hx177_0 | skip); obtain ⟨hx23_0, hf23_0⟩ := Kd.R_celln 0 HO176.out ((ji20) : Int) p23 q23; replace p23 := eq_true p23; replace q23 := eq_true q23; obtain ⟨hy45_, hz45_⟩ := Kd.R_celln 0 HO176.out ((ji20) : Int) (of_decide_eq_true (by first | (with_reducible assumption) | assumption)) (of_decide_eq_true (by first | (with_reducible assumption) | assumption)); have HP45 := Kd.R_putg HO176.out ((ji20) : Int) (Go.bits .xor .u8 (rd y174 (ji20)) a4)) | ((with_reducible refine gate_store (t := 5) (p := 53) rfl ?_); refine store_event (t := 5) (p := 53) (v := ?vo_w46) (w1 := (w43.setCell ⟨go23, ((ji20) : Int).toNat, none⟩ (.int .u8 (Go.bits .xor .u8 (rd y174 (ji20)) a4)))) ?hg ?ho ?hn ?hr ?_; (case ho => rfl); (case hg => rfl); (case hn => rfl); (case hr => first | (go_simp; done) | (go_simp; rfl)); intro w46 hw; have hg : w43.grownBy w46 (some go23) := (by rw [hw]; exact HP45.2); have hp_ : Kd.R (Kd.int .u8) 5 w46 w.heap.size (fun k_ => some k_ ≠ (.slice Ao42 t171.length co42 : Value).ownBlock) (.slice (some ⟨go23, 0, none⟩) y174.length co44) y178 := (by rw [hw, Ny178.out]; exact HP45.1); clear HP45; have n0_ := Aside0.mk (Kd.R_after (v := (.slice (some ⟨go23, 0, none⟩) y174.length co44)) (v1 := (.slice (some ⟨go23, 0, none⟩) y174.length co44)) (ok := (fun _ => True)) (by (with_reducible repeat (first | apply Kd.R_alloc | apply Kd.R_drewN | apply Kd.R_drew)); exact HO173.out) hg (.inl rfl)); have n1_ := Aside0.mk (hp_); have n2_ := Aside0.mk ((by rw [hw]; exact below_set (HB.out) GB23.out : Below w.heap.size w w46)); clear HO173; clear HO176; clear HB; have HO173 := n0_; have HO176 := n1_; have HB := n2_; clear n0_ n1_ n2_; clear hg hw hp_) | ((with_reducible refine gate_callee (f := 12) rfl ?_); refine goesL_ (some 58) rfl rfl Tryd.func12 (by kernel_rfl) rfl #[.int .u32 a0, .int .u32 a1, .slice (some ⟨go23, 0, none⟩) y178.length co44] rfl (by (try simp only [List.map_toArray, List.map_cons, List.map_nil]); first | done | (rw [show y178.length = y174.length from (Kd.R_reads' HO176.out).1.symm] <;> rfl) | rfl | (simp only [List.length_drop, List.length_take]; rfl)) ?_; (with_reducible refine (seal_Open.calls kj6 a0 a1 _ _ y178 t179 t180 t181 _ ?side1 ?side2 ?side3 A24.out).mono ?_); (case side1 => repeat (first | exact (Kd.R_reads' HO176.out).2.2 | (with_reducible refine Kd.C_alloc ?_ _) | (with_reducible refine Kd.C_drewN ?_ _) | (with_reducible refine Kd.C_drew ?_))); (case side2 => rw [show y178.length = y174.length from (Kd.R_reads' HO176.out).1.symm]; exact (Kd.R_reads' HO176.out).2.1); (case side3 => repeat (first | exact (Kd.C_below HRG0.out HB.out) | exact HRG0.out | (with_reducible refine Kd.C_alloc ?_ _) | (with_reducible refine Kd.C_drewN ?_ _) | (with_reducible refine Kd.C_drew ?_))); rintro e w47 ⟨v182, rfl, ho0, hb⟩; refine ⟨_, rfl, ?_⟩; have n0_ := Aside0.mk (Kd.R_elder' (by (with_reducible repeat (first | apply Kd.R_alloc | apply Kd.R_drewN | apply Kd.R_drew)); exact HO173.out) (Kd.R_base ho0) hb); have n1_ := Aside0.mk (Kd.R_elder' (by (with_reducible repeat (first | apply Kd.R_alloc | apply Kd.R_drewN | apply Kd.R_drew)); exact HO176.out) (Kd.R_base ho0) hb); have n2_ := Aside0.mk (Kd.R_lower (Kd.R_new' (Kd.R_new' ho0 (Kd.R_lt (by (with_reducible repeat (first | apply Kd.R_alloc | apply Kd.R_drewN | apply Kd.R_drew)); exact HO173.out))) (Kd.R_lt (by (with_reducible repeat (first | apply Kd.R_alloc | apply Kd.R_drewN | apply Kd.R_drew)); exact HO176.out))) (below_size (by repeat (first | (with_reducible first | exact HB.out | apply below_alloc | apply pw_below_drewN | apply below_drew1) | exact HB.out)))); have n3_ := Aside0.mk (below_step (by repeat (first | (with_reducible first | exact HB.out | apply below_alloc | apply pw_below_drewN | apply below_drew1) | exact HB.out)) hb); clear HO173; clear HO176; clear HB; have HO173 := n0_; have HO176 := n1_; have HO183 := n2_; have HB := n3_; clear n0_ n1_ n2_ n3_; (try clear hb); (try clear hb2); (try clear hk); (try clear hi); (try clear ho0); have q48 : ((ji25) : Int) ≤ ((t171.length : Int) : Int) := of_decide_eq_true (by first | (with_reducible assumption) | assumption); obtain ⟨i048, hi048, _, hsz48, _⟩ := info_parts info5; have hroom48 : t171.length ≤ co42 := (Kd.R_reads' HO173.out).2.1; have hC48 : Kd.C (Kd.int .u8) _ Ao42 t171.length t171 := (Kd.R_reads' HO173.out).2.2; have hcut48 := cut_to (P := Tryd.prog) 22 5 .i64 Tryd.underlying22 hi048 Ao42 t171.length co42 (ji25) (of_decide_eq_true (by first | (with_reducible assumption) | assumption)) q48 hroom48; have hr48 := Kd.C_take (m := ((ji25) : Int).toNat) hC48 (by omega); have hy48 : y184.length = ((ji25) : Int).toNat := (by rw [Ny184.out, List.length_take]; omega); rw [← Ny184.out] at hr48; rw [← hy48] at hcut48; have HR187 := Aside0.mk hr48; have HC187 := Aside0.mk (show y184.length ≤ co42 from by omega); clear hr48 hC48 hroom48 hi048 hsz48; have KY48 := Aside0.mk hy48; clear hy48; have KL48 := Aside0.mk (show ((ji25) : Int).toNat ≤ t171.length from by omega); replace q48 := eq_true q48) | ((with_reducible refine gate_callee (f := 12) rfl ?_); refine goesL_ (some 72) rfl rfl Tryd.func12 (by kernel_rfl) rfl #[.int .u32 a0, .int .u32 a1, .slice Ao42 y184.length co42] rfl (by (try simp only [List.map_toArray, List.map_cons, List.map_nil]); first | done | rfl | (simp only [List.length_drop, List.length_take]; rfl)) ?_; (with_reducible refine (seal_Open.calls kj6 a0 a1 _ _ y184 t188 t189 t190 _ ?side1 ?side2 ?side3 A28.out).mono ?_); (case side1 => repeat (first | exact (by repeat (first | (with_reducible exact HR187.out) | (with_reducible refine Kd.C_alloc ?_ _) | (with_reducible refine Kd.C_drewN ?_ _) | (with_reducible refine Kd.C_drew ?_) | exact HR187.out)) | (with_reducible refine Kd.C_alloc ?_ _) | (with_reducible refine Kd.C_drewN ?_ _) | (with_reducible refine Kd.C_drew ?_))); (case side2 => exact HC187.out); (case side3 => repeat (first | exact (Kd.C_below HRG0.out HB.out) | exact HRG0.out | (with_reducible refine Kd.C_alloc ?_ _) | (with_reducible refine Kd.C_drewN ?_ _) | (with_reducible refine Kd.C_drew ?_))); rintro e w49 ⟨v191, rfl, ho0, hb⟩; refine ⟨_, rfl, ?_⟩; have n0_ := Aside0.mk (Kd.R_elder' (by (with_reducible repeat (first | apply Kd.R_alloc | apply Kd.R_drewN | apply Kd.R_drew)); exact HO173.out) (Kd.R_base ho0) hb); have n1_ := Aside0.mk (Kd.R_elder' (by (with_reducible repeat (first | apply Kd.R_alloc | apply Kd.R_drewN | apply Kd.R_drew)); exact HO176.out) (Kd.R_base ho0) hb); have n2_ := Aside0.mk (Kd.R_elder' (by (with_reducible repeat (first | apply Kd.R_alloc | apply Kd.R_drewN | apply Kd.R_drew)); exact HO183.out) (Kd.R_base ho0) hb); have n3_ := Aside0.mk (Kd.R_lower (Kd.R_new' (Kd.R_new' (Kd.R_new' ho0 (Kd.R_lt (by (with_reducible repeat (first | apply Kd.R_alloc | apply Kd.R_drewN | apply Kd.R_drew)); exact HO173.out))) (Kd.R_lt (by (with_reducible repeat (first | apply Kd.R_alloc | apply Kd.R_drewN | apply Kd.R_drew)); exact HO176.out))) (Kd.R_lt (by (with_reducible repeat (first | apply Kd.R_alloc | apply Kd.R_drewN | apply Kd.R_drew)); exact HO183.out))) (below_size (by repeat (first | (with_reducible first | exact HB.out | apply below_alloc | apply pw_below_drewN | apply below_drew1) | exact HB.out)))); have n4_ := Aside0.mk (Kd.C_below (by repeat (first | (with_reducible exact HR187.out) | (with_reducible refine Kd.C_alloc ?_ _) | (with_reducible refine Kd.C_drewN ?_ _) | (with_reducible refine Kd.C_drew ?_) | exact HR187.out)) hb); have n5_ := Aside0.mk (below_step (by repeat (first | (with_reducible first | exact HB.out | apply below_alloc | apply pw_below_drewN | apply below_drew1) | exact HB.out)) hb); clear HO173; clear HO176; clear HO183; clear HR187; clear HB; have HO173 := n0_; have HO176 := n1_; have HO183 := n2_; have HO192 := n3_; have HR187 := n4_; have HB := n5_; clear n0_ n1_ n2_ n3_ n4_ n5_; (try clear hb); (try clear hb2); (try clear hk); (try clear hi); (try clear ho0)))
           go_ret
           exact ⟨by first | rfl | (simp [errW_none, errW_some] <;> rfl) | (simp only [← hji20, ← hji25]; first | rfl | (simp [errW_none, errW_some] <;> rfl)) | (simp [*, errW_none, errW_some] <;> rfl), by repeat (first | (with_reducible first | exact HB.out | apply below_alloc | apply pw_below_drewN | apply below_drew1) | exact HB.out)⟩
         ·rw [if_neg c27] at H
          exact absurd H (by simp)
        ·rw [if_neg c26] at H
         exact absurd H (by simp)
       ·rw [if_neg c22] at H
        exact absurd H (by simp)
      ·rw [if_neg c21] at H
       exact absurd H (by simp)
     ·rw [if_neg c19] at H
      exact absurd H (by simp)

/-- THE ONE PURE STATEMENT of paybooklaw06_SealTurns: yours. -/
def paybooklaw06_SealTurns.Pure : Prop := ∀ (a0 : Int) (a1 : Int) (l2 : List Int) (a3 : Int) (a4 : Int) (a5 : Int), (Lit.int .u32 a0).wf = true → (Lit.int .u32 a1).wf = true → l2.length ≤ maxLen → l2.length * 1 ≤ 140737488351232 → (∀ x ∈ l2, (Lit.int .u8 x).wf = true) → (Lit.int .u16 a3).wf = true → (Lit.int .u8 a4).wf = true → (Lit.int .u16 a5).wf = true → ∃ k, paybooklaw06_SealTurns.f k a0 a1 l2 a3 a4 a5 = some true
theorem paybooklaw06_SealTurns.walk (P : paybooklaw06_SealTurns.Pure) (a0 : Int) (a1 : Int) (a2 : Option Addr) (len2 cap2 : Nat) (z2 : List Int) (a3 : Int) (a4 : Int) (a5 : Int) (w : World) (w0 : (Lit.int .u32 a0).wf = true) (w1 : (Lit.int .u32 a1).wf = true) (w2 : (a2 = none ∧ len2 = 0 ∧ cap2 = 0 ∧ z2 = []) ∨ ∃ x, a2 = some x ∧ len2 ≤ cap2 ∧ cap2 ≤ maxLen ∧ z2.length = cap2 ∧ (∀ i, i < z2.length → w.cell? (x.add i) = some (.int .u8 (z2.getD i 0))) ∧ ∀ n ∈ z2, (Lit.int .u8 n).wf = true) (y2 : len2 * 1 ≤ 140737488351232) (w3 : (Lit.int .u16 a3).wf = true) (w4 : (Lit.int .u8 a4).wf = true) (w5 : (Lit.int .u16 a5).wf = true) (hrG0 : Kd.C (Kd.int .u32) w (some ⟨0, 0, none⟩) 16 gl0) :
  Calls Tryd.prog 5 #[.int .u32 a0, .int .u32 a1, .slice a2 len2 cap2, .int .u16 a3, .int .u8 a4, .int .u16 a5] w fun e w' => e = .returned (.bool true) ∧ Below w.heap.size w w' := by
 obtain ⟨l2, rfl, hr2, hm2, hw2, hc2⟩ := ReadsInt.ofRowC w2
 obtain ⟨k, h⟩ := P a0 a1 l2 a3 a4 a5 w0 w1 hm2 y2 hw2 w3 w4 w5
 refine (paybooklaw06_SealTurns.calls k a0 a1 _ _ l2 a3 a4 a5 w (Kd.C_of_reads (d := (0 : Int)) (h1 := fun _ => rfl) hr2) hc2 hrG0 h).mono ?_
 rintro e w' ⟨rfl, hd⟩
 exact ⟨rfl, hd⟩

end Go.Proofs.YtifefhdinnechaaDoor.PA
