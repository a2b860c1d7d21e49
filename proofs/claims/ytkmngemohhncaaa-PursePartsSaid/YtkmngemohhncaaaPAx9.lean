-- printed by this workplace: wip/patchprint.py over the kit's print
import Derived.Test.YtkmngemohhncaaaPAx0
import Derived.Test.YtkmngemohhncaaaPAx6
import Derived.Test.YtkmngemohhncaaaPAx8
namespace Go.Proofs.Ytkmngemohhncaaa.PA
open Go.RowKit Go.Proofs.YtkmngemohhncaaaW.PrintWords Go.Proofs.YtkmngemohhncaaaW.PrintLast Go.Proofs.YtkmngemohhncaaaW.PrintMore
attribute [local go_sem] max2_int min2_int max_two min_two max_three min_three max_four min_four   -- for this text's walks alone
set_option linter.unusedVariables false
set_option linter.unusedSimpArgs false

/-! ### paybooklaw03_PurseParts: function 3 -/
mutual
def paybooklaw03_PurseParts.j0 : Nat → Int → Int → Int → Int → Int → Bool → Option (Bool)
 | 0, _, _, _, _, _, _ => none
 | k + 1, x0, x1, x2, x7, x8, x25 => if x25 = true then ((paybooklaw03_awake.f k).bind fun t118 => (if t118 = true then (some (x8 == 9)) else (some false))) else (if x2 < 1 then (paybooklaw03_PurseParts.j1 k x0 x1 x2 x7 x8 true) else (if x1 < 0 then (paybooklaw03_PurseParts.j1 k x0 x1 x2 x7 x8 true) else (paybooklaw03_PurseParts.j1 k x0 x1 x2 x7 x8 (decide (x1 > x2)))))
def paybooklaw03_PurseParts.j1 : Nat → Int → Int → Int → Int → Int → Bool → Option (Bool)
 | 0, _, _, _, _, _, _ => none
 | k + 1, x0, x1, x2, x7, x8, x41 => if x41 = true then ((paybooklaw03_awake.f k).bind fun t119 => (if t119 = true then (some (x8 == 1)) else (some false))) else (paybooklaw03_PurseParts.l0 k x0 x1 x2 x7 x8 0 0 50)
def paybooklaw03_PurseParts.l0 : Nat → Int → Int → Int → Int → Int → Int → Int → Int → Option (Bool)
 | 0, _, _, _, _, _, _, _, _ => none
 | k + 1, x0, x1, x2, x7, x8, x9, x10, x11 => if x11 ≥ 0 then (if x10 ≥ 9223372036854775808 then (paybooklaw03_PurseParts.j3 k x0 x1 x2 x7 x8 (wrap64 (2 * x9)) (IntKind.u64.wrap (2 * x10)) x11 true) else (paybooklaw03_PurseParts.j3 k x0 x1 x2 x7 x8 (wrap64 (2 * x9)) (IntKind.u64.wrap (2 * x10)) x11 (decide ((IntKind.u64.wrap (2 * x10)) ≥ (IntKind.u64.wrap (x2)))))) else ((paybooklaw03_awake.f k).bind fun t120 => (if t120 = true then (if x8 = 0 then (if x7 = x9 then (if x7 ≥ 0 then (some (decide (x7 ≤ x0))) else (some false)) else (some false)) else (some false)) else (some false)))
def paybooklaw03_PurseParts.j3 : Nat → Int → Int → Int → Int → Int → Int → Int → Int → Bool → Option (Bool)
 | 0, _, _, _, _, _, _, _, _, _ => none
 | k + 1, x0, x1, x2, x7, x8, x9, x10, x11, x63 => if x63 = true then (paybooklaw03_PurseParts.j4 k x0 x1 x2 x7 x8 (wrap64 (x9 + 1)) (IntKind.u64.wrap (x10 - (IntKind.u64.wrap (x2)))) x11) else (paybooklaw03_PurseParts.j4 k x0 x1 x2 x7 x8 x9 x10 x11)
def paybooklaw03_PurseParts.j4 : Nat → Int → Int → Int → Int → Int → Int → Int → Int → Option (Bool)
 | 0, _, _, _, _, _, _, _, _ => none
 | k + 1, x0, x1, x2, x7, x8, x9, x10, x11 => if 0 ≤ x11 then (if (Int.tmod (shr .i64 x0 x11) 2) = 1 then (if x10 ≥ (IntKind.u64.wrap ((IntKind.u64.wrap (x2)) - (IntKind.u64.wrap (x1)))) then (paybooklaw03_PurseParts.l0 k x0 x1 x2 x7 x8 (wrap64 (x9 + 1)) (IntKind.u64.wrap (x10 - (IntKind.u64.wrap ((IntKind.u64.wrap (x2)) - (IntKind.u64.wrap (x1)))))) (wrap64 (x11 - 1))) else (paybooklaw03_PurseParts.l0 k x0 x1 x2 x7 x8 x9 (IntKind.u64.wrap (x10 + (IntKind.u64.wrap (x1)))) (wrap64 (x11 - 1)))) else (paybooklaw03_PurseParts.l0 k x0 x1 x2 x7 x8 x9 x10 (wrap64 (x11 - 1)))) else (none)
end
def paybooklaw03_PurseParts.f (k : Nat) (a0 : Int) (a1 : Int) (a2 : Int) : Option (Bool) := (purse_Part.f k a0 a1 a2).bind fun bt116 => (if a0 < 0 then (paybooklaw03_PurseParts.j0 k a0 a1 a2 bt116.1 bt116.2 true) else (paybooklaw03_PurseParts.j0 k a0 a1 a2 bt116.1 bt116.2 (decide (a0 > 1125899906842624))))
theorem paybooklaw03_PurseParts.mono_l : ∀ k, (∀ y0 y1 y2 y3 y4 y5, LeO (paybooklaw03_PurseParts.j0 k y0 y1 y2 y3 y4 y5) (paybooklaw03_PurseParts.j0 (k + 1) y0 y1 y2 y3 y4 y5)) ∧ (∀ y0 y1 y2 y3 y4 y5, LeO (paybooklaw03_PurseParts.j1 k y0 y1 y2 y3 y4 y5) (paybooklaw03_PurseParts.j1 (k + 1) y0 y1 y2 y3 y4 y5)) ∧ (∀ y0 y1 y2 y3 y4 y5 y6 y7, LeO (paybooklaw03_PurseParts.l0 k y0 y1 y2 y3 y4 y5 y6 y7) (paybooklaw03_PurseParts.l0 (k + 1) y0 y1 y2 y3 y4 y5 y6 y7)) ∧ (∀ y0 y1 y2 y3 y4 y5 y6 y7 y8, LeO (paybooklaw03_PurseParts.j3 k y0 y1 y2 y3 y4 y5 y6 y7 y8) (paybooklaw03_PurseParts.j3 (k + 1) y0 y1 y2 y3 y4 y5 y6 y7 y8)) ∧ (∀ y0 y1 y2 y3 y4 y5 y6 y7, LeO (paybooklaw03_PurseParts.j4 k y0 y1 y2 y3 y4 y5 y6 y7) (paybooklaw03_PurseParts.j4 (k + 1) y0 y1 y2 y3 y4 y5 y6 y7))
 | 0 => ⟨fun _ _ _ _ _ _ r h => by simp [paybooklaw03_PurseParts.j0] at h, fun _ _ _ _ _ _ r h => by simp [paybooklaw03_PurseParts.j1] at h, fun _ _ _ _ _ _ _ _ r h => by simp [paybooklaw03_PurseParts.l0] at h, fun _ _ _ _ _ _ _ _ _ r h => by simp [paybooklaw03_PurseParts.j3] at h, fun _ _ _ _ _ _ _ _ r h => by simp [paybooklaw03_PurseParts.j4] at h⟩
 | k + 1 => by
  obtain ⟨ih0, ih1, ih2, ih3, ih4⟩ := paybooklaw03_PurseParts.mono_l k
  refine ⟨?_, ?_, ?_, ?_, ?_⟩
  ·intro y0 y1 y2 y3 y4 y5
   unfold paybooklaw03_PurseParts.j0
   repeat' first
   | (with_reducible exact ih0 _ _ _ _ _ _)
   | (with_reducible exact ih1 _ _ _ _ _ _)
   | (with_reducible exact ih2 _ _ _ _ _ _ _ _)
   | (with_reducible exact ih3 _ _ _ _ _ _ _ _ _)
   | (with_reducible exact ih4 _ _ _ _ _ _ _ _)
   | (with_reducible exact paybooklaw03_awake.mono _)
   | (with_reducible exact purse_Part.mono _ _ _ _)
   | (with_reducible exact LeO.refl _)
   | (with_reducible exact LeO.none _)
   | (with_reducible refine LeO.ite ?_ ?_)
   | (with_reducible refine LeO.bind ?_ (fun _ => ?_))
   | exact ih0 _ _ _ _ _ _
   | exact ih1 _ _ _ _ _ _
   | exact ih2 _ _ _ _ _ _ _ _
   | exact ih3 _ _ _ _ _ _ _ _ _
   | exact ih4 _ _ _ _ _ _ _ _
   | exact paybooklaw03_awake.mono _
   | exact purse_Part.mono _ _ _ _
   | exact LeO.none _
   | refine LeO.ite ?_ ?_
   | refine LeO.bind ?_ (fun _ => ?_)
  ·intro y0 y1 y2 y3 y4 y5
   unfold paybooklaw03_PurseParts.j1
   repeat' first
   | (with_reducible exact ih0 _ _ _ _ _ _)
   | (with_reducible exact ih1 _ _ _ _ _ _)
   | (with_reducible exact ih2 _ _ _ _ _ _ _ _)
   | (with_reducible exact ih3 _ _ _ _ _ _ _ _ _)
   | (with_reducible exact ih4 _ _ _ _ _ _ _ _)
   | (with_reducible exact paybooklaw03_awake.mono _)
   | (with_reducible exact purse_Part.mono _ _ _ _)
   | (with_reducible exact LeO.refl _)
   | (with_reducible exact LeO.none _)
   | (with_reducible refine LeO.ite ?_ ?_)
   | (with_reducible refine LeO.bind ?_ (fun _ => ?_))
   | exact ih0 _ _ _ _ _ _
   | exact ih1 _ _ _ _ _ _
   | exact ih2 _ _ _ _ _ _ _ _
   | exact ih3 _ _ _ _ _ _ _ _ _
   | exact ih4 _ _ _ _ _ _ _ _
   | exact paybooklaw03_awake.mono _
   | exact purse_Part.mono _ _ _ _
   | exact LeO.none _
   | refine LeO.ite ?_ ?_
   | refine LeO.bind ?_ (fun _ => ?_)
  ·intro y0 y1 y2 y3 y4 y5 y6 y7
   unfold paybooklaw03_PurseParts.l0
   repeat' first
   | (with_reducible exact ih0 _ _ _ _ _ _)
   | (with_reducible exact ih1 _ _ _ _ _ _)
   | (with_reducible exact ih2 _ _ _ _ _ _ _ _)
   | (with_reducible exact ih3 _ _ _ _ _ _ _ _ _)
   | (with_reducible exact ih4 _ _ _ _ _ _ _ _)
   | (with_reducible exact paybooklaw03_awake.mono _)
   | (with_reducible exact purse_Part.mono _ _ _ _)
   | (with_reducible exact LeO.refl _)
   | (with_reducible exact LeO.none _)
   | (with_reducible refine LeO.ite ?_ ?_)
   | (with_reducible refine LeO.bind ?_ (fun _ => ?_))
   | exact ih0 _ _ _ _ _ _
   | exact ih1 _ _ _ _ _ _
   | exact ih2 _ _ _ _ _ _ _ _
   | exact ih3 _ _ _ _ _ _ _ _ _
   | exact ih4 _ _ _ _ _ _ _ _
   | exact paybooklaw03_awake.mono _
   | exact purse_Part.mono _ _ _ _
   | exact LeO.none _
   | refine LeO.ite ?_ ?_
   | refine LeO.bind ?_ (fun _ => ?_)
  ·intro y0 y1 y2 y3 y4 y5 y6 y7 y8
   unfold paybooklaw03_PurseParts.j3
   repeat' first
   | (with_reducible exact ih0 _ _ _ _ _ _)
   | (with_reducible exact ih1 _ _ _ _ _ _)
   | (with_reducible exact ih2 _ _ _ _ _ _ _ _)
   | (with_reducible exact ih3 _ _ _ _ _ _ _ _ _)
   | (with_reducible exact ih4 _ _ _ _ _ _ _ _)
   | (with_reducible exact paybooklaw03_awake.mono _)
   | (with_reducible exact purse_Part.mono _ _ _ _)
   | (with_reducible exact LeO.refl _)
   | (with_reducible exact LeO.none _)
   | (with_reducible refine LeO.ite ?_ ?_)
   | (with_reducible refine LeO.bind ?_ (fun _ => ?_))
   | exact ih0 _ _ _ _ _ _
   | exact ih1 _ _ _ _ _ _
   | exact ih2 _ _ _ _ _ _ _ _
   | exact ih3 _ _ _ _ _ _ _ _ _
   | exact ih4 _ _ _ _ _ _ _ _
   | exact paybooklaw03_awake.mono _
   | exact purse_Part.mono _ _ _ _
   | exact LeO.none _
   | refine LeO.ite ?_ ?_
   | refine LeO.bind ?_ (fun _ => ?_)
  ·intro y0 y1 y2 y3 y4 y5 y6 y7
   unfold paybooklaw03_PurseParts.j4
   repeat' first
   | (with_reducible exact ih0 _ _ _ _ _ _)
   | (with_reducible exact ih1 _ _ _ _ _ _)
   | (with_reducible exact ih2 _ _ _ _ _ _ _ _)
   | (with_reducible exact ih3 _ _ _ _ _ _ _ _ _)
   | (with_reducible exact ih4 _ _ _ _ _ _ _ _)
   | (with_reducible exact paybooklaw03_awake.mono _)
   | (with_reducible exact purse_Part.mono _ _ _ _)
   | (with_reducible exact LeO.refl _)
   | (with_reducible exact LeO.none _)
   | (with_reducible refine LeO.ite ?_ ?_)
   | (with_reducible refine LeO.bind ?_ (fun _ => ?_))
   | exact ih0 _ _ _ _ _ _
   | exact ih1 _ _ _ _ _ _
   | exact ih2 _ _ _ _ _ _ _ _
   | exact ih3 _ _ _ _ _ _ _ _ _
   | exact ih4 _ _ _ _ _ _ _ _
   | exact paybooklaw03_awake.mono _
   | exact purse_Part.mono _ _ _ _
   | exact LeO.none _
   | refine LeO.ite ?_ ?_
   | refine LeO.bind ?_ (fun _ => ?_)
theorem paybooklaw03_PurseParts.mono : ∀ a0 a1 a2 k, LeO (paybooklaw03_PurseParts.f k a0 a1 a2) (paybooklaw03_PurseParts.f (k + 1) a0 a1 a2) := by
 intro a0 a1 a2 k
 obtain ⟨ih0, ih1, ih2, ih3, ih4⟩ := paybooklaw03_PurseParts.mono_l k
 unfold paybooklaw03_PurseParts.f
 repeat' first
   | (with_reducible exact ih0 _ _ _ _ _ _)
   | (with_reducible exact ih1 _ _ _ _ _ _)
   | (with_reducible exact ih2 _ _ _ _ _ _ _ _)
   | (with_reducible exact ih3 _ _ _ _ _ _ _ _ _)
   | (with_reducible exact ih4 _ _ _ _ _ _ _ _)
   | (with_reducible exact paybooklaw03_awake.mono _)
   | (with_reducible exact purse_Part.mono _ _ _ _)
   | (with_reducible exact LeO.refl _)
   | (with_reducible exact LeO.none _)
   | (with_reducible refine LeO.ite ?_ ?_)
   | (with_reducible refine LeO.bind ?_ (fun _ => ?_))
   | exact ih0 _ _ _ _ _ _
   | exact ih1 _ _ _ _ _ _
   | exact ih2 _ _ _ _ _ _ _ _
   | exact ih3 _ _ _ _ _ _ _ _ _
   | exact ih4 _ _ _ _ _ _ _ _
   | exact paybooklaw03_awake.mono _
   | exact purse_Part.mono _ _ _ _
   | exact LeO.none _
   | refine LeO.ite ?_ ?_
   | refine LeO.bind ?_ (fun _ => ?_)
set_option maxHeartbeats 8000000 in
set_option maxRecDepth 100000 in
theorem paybooklaw03_PurseParts.calls (k : Nat) (a0 : Int) (a1 : Int) (a2 : Int) (w : World) (h : paybooklaw03_PurseParts.f k a0 a1 a2 = some true) :
  Calls Try.prog 3 #[.int .i64 a0, .int .i64 a1, .int .i64 a2] w fun e w' => e = .returned (.bool true) ∧ Drawn0 w w' := by
 have H : ((purse_Part.f k a0 a1 a2).bind fun bt116 => (if a0 < 0 then (paybooklaw03_PurseParts.j0 k a0 a1 a2 bt116.1 bt116.2 true) else (paybooklaw03_PurseParts.j0 k a0 a1 a2 bt116.1 bt116.2 (decide (a0 > 1125899906842624))))) = some true := h
 clear h
 replace H := Option.bind_eq_some_iff.mp H
 obtain ⟨⟨t116, t117⟩, A40, H⟩ := H
 replace H : (if a0 < 0 then (paybooklaw03_PurseParts.j0 k a0 a1 a2 t116 t117 true) else (paybooklaw03_PurseParts.j0 k a0 a1 a2 t116 t117 (decide (a0 > 1125899906842624)))) = some true := H
 have A4 := Aside0.mk A40
 clear A40
 have HC5 := Aside0.mk H
 clear H
 go_enter Try.func3, Try.ntmps3
 go_upto_region 2 with (first | ((with_reducible refine gate_callee (f := 9) rfl ?_); refine goesL_ (some 17) rfl rfl Try.func9 (by kernel_rfl) rfl #[.int .i64 a0, .int .i64 a1, .int .i64 a2] rfl (by (try simp only [List.map_toArray, List.map_cons, List.map_nil]); first | done | rfl | (simp only [List.length_drop, List.length_take]; rfl)) ?_; (with_reducible refine (purse_Part.calls k a0 a1 a2 t116 t117 _ A4.out).mono ?_); rintro e w' ⟨rfl, ⟨nd, rfl⟩⟩; refine ⟨_, rfl, ?_⟩))
 (try simp only [Act.put, List.setIfInBounds_toArray, List.set_cons_zero, List.set_cons_succ])
 go_cut [25] (fun v25 wc => ∃ (kq : Nat) (x25_4 : Bool), v25 = .bool x25_4 ∧ Aside0 (paybooklaw03_PurseParts.j0 kq a0 a1 a2 t116 t117 x25_4 = some true) ∧ Aside0 (kq ≤ k) ∧ Drawn0 w wc)
 case first =>
  have H := HC5.out
  clear HC5
  by_cases c6 : a0 < 0
  ·rw [if_pos c6] at H
   have c6b0 : decide (a0 < 0) = true := decide_eq_true c6
   clear c6
   (first | (generalize hg_ : decide (a0 < 0) = bg_ at *; subst c6b0; have c6b0 := hg_; clear hg_) | rw [c6b0] | (simp only [i64_w, i32_w]; rw [c6b0]) | skip)
   have H' := Aside0.mk H
   clear H
   go_wp2
   go_meet
   case rel => exact ⟨_, (true), (by first | rfl | (simp; done) | (simp [*]; done)), H', ⟨by first | omega | exact Nat.le_refl _⟩, by repeat (first | exact Drawn0.refl _ | apply Drawn0.step)⟩
  ·rw [if_neg c6] at H
   have c6b0 : decide (a0 < 0) = false := decide_eq_false c6
   clear c6
   (first | (generalize hg_ : decide (a0 < 0) = bg_ at *; subst c6b0; have c6b0 := hg_; clear hg_) | rw [c6b0] | (simp only [i64_w, i32_w]; rw [c6b0]) | skip)
   have H' := Aside0.mk H
   clear H
   go_wp2
   go_meet
   case rel => exact ⟨_, (decide (a0 > 1125899906842624)), (by first | rfl | (simp; done) | (simp [*]; done)), H', ⟨by first | omega | exact Nat.le_refl _⟩, by repeat (first | exact Drawn0.refl _ | apply Drawn0.step)⟩
 case rest =>
  clear HC5
  try clear p2
  try clear c3
  try clear c6
  try clear c6b0
  obtain ⟨kq, x25_4, rfl, HA, HJ4, ⟨mc4, rfl⟩⟩ := hcut
  cases kq with
  | zero => exact absurd HA.out (by simp [paybooklaw03_PurseParts.j0])
  | succ kj4 =>
   have H := HA.out
   clear HA
   simp only [paybooklaw03_PurseParts.j0] at H
   by_cases c7 : x25_4 = true
   ·subst c7
    have H1 : ((paybooklaw03_awake.f kj4).bind fun t118 => (if t118 = true then (some (t117 == 9)) else (some false))) = some true := by rw [if_pos rfl] at H; exact H
    clear H
    have H := H1
    clear H1
    replace H := Option.bind_eq_some_iff.mp H
    obtain ⟨t118, A80, H⟩ := H
    replace H : (if t118 = true then (some (t117 == 9)) else (some false)) = some true := H
    have A8 := Aside0.mk A80
    clear A80
    by_cases c9 : t118 = true
    ·subst c9
     have H1 : (some (t117 == 9)) = some true := by rw [if_pos rfl] at H; exact H
     clear H
     have H := H1
     clear H1
     have HT_ := Option.some.inj H
     clear H
     (try (have HT_z_ := HT_; simp only [beq_true, beq_false, true_beq, false_beq, Bool.not_eq_true', Bool.not_eq_false', Bool.not_true, Bool.not_false] at HT_z_))
     go_wp2_with (first | (go_at_call 10; (with_reducible refine (paybooklaw03_awake.calls kj4  true _ A8.out).mono ?_); rintro e w' ⟨rfl, ⟨nd, rfl⟩⟩))
     go_ret
     exact ⟨by first | rfl | (simp; done) | (simp [*]; done), by repeat (first | exact Drawn0.refl _ | apply Drawn0.step)⟩
    ·replace c9 := Bool.eq_false_iff.mpr c9
     subst c9
     have H1 : (some false) = some true := by rw [if_neg (show ¬ (false = true) by decide)] at H; exact H
     clear H
     have H := H1
     clear H1
     exact absurd H (by simp)
   ·replace c7 := Bool.eq_false_iff.mpr c7
    subst c7
    have H1 : (if a2 < 1 then (paybooklaw03_PurseParts.j1 kj4 a0 a1 a2 t116 t117 true) else (if a1 < 0 then (paybooklaw03_PurseParts.j1 kj4 a0 a1 a2 t116 t117 true) else (paybooklaw03_PurseParts.j1 kj4 a0 a1 a2 t116 t117 (decide (a1 > a2))))) = some true := by rw [if_neg (show ¬ (false = true) by decide)] at H; exact H
    clear H
    have H := H1
    clear H1
    have HC10 := Aside0.mk H
    clear H
    go_upto_region 4 with (fail)
    go_cut [41] (fun v41 wc => ∃ (kq : Nat) (x41_9 : Bool), v41 = .bool x41_9 ∧ Aside0 (paybooklaw03_PurseParts.j1 kq a0 a1 a2 t116 t117 x41_9 = some true) ∧ Aside0 (kq ≤ kj4) ∧ Drawn0 w wc)
    case first =>
     have H := HC10.out
     clear HC10
     by_cases c11 : a2 < 1
     ·rw [if_pos c11] at H
      have c11b0 : decide (a2 < 1) = true := decide_eq_true c11
      clear c11
      (first | (generalize hg_ : decide (a2 < 1) = bg_ at *; subst c11b0; have c11b0 := hg_; clear hg_) | rw [c11b0] | (simp only [i64_w, i32_w]; rw [c11b0]) | skip)
      have H' := Aside0.mk H
      clear H
      go_wp2
      go_meet
      case rel => exact ⟨_, (true), (by first | rfl | (simp; done) | (simp [*]; done)), H', ⟨by have := HJ4.out; first | omega | exact Nat.le_refl _⟩, by repeat (first | exact Drawn0.refl _ | apply Drawn0.step)⟩
     ·rw [if_neg c11] at H
      have c11b0 : decide (a2 < 1) = false := decide_eq_false c11
      clear c11
      (first | (generalize hg_ : decide (a2 < 1) = bg_ at *; subst c11b0; have c11b0 := hg_; clear hg_) | rw [c11b0] | (simp only [i64_w, i32_w]; rw [c11b0]) | skip)
      by_cases c12 : a1 < 0
      ·rw [if_pos c12] at H
       have c12b0 : decide (a1 < 0) = true := decide_eq_true c12
       clear c12
       have H' := Aside0.mk H
       clear H
       go_wp2
       go_meet
       case rel => exact ⟨_, (true), (by first | rfl | (simp; done) | (simp [*]; done)), H', ⟨by have := HJ4.out; first | omega | exact Nat.le_refl _⟩, by repeat (first | exact Drawn0.refl _ | apply Drawn0.step)⟩
      ·rw [if_neg c12] at H
       have c12b0 : decide (a1 < 0) = false := decide_eq_false c12
       clear c12
       have H' := Aside0.mk H
       clear H
       go_wp2
       go_meet
       case rel => exact ⟨_, (decide (a1 > a2)), (by first | rfl | (simp; done) | (simp [*]; done)), H', ⟨by have := HJ4.out; first | omega | exact Nat.le_refl _⟩, by repeat (first | exact Drawn0.refl _ | apply Drawn0.step)⟩
    case rest =>
     clear HC10
     try clear c1
     try clear p2
     try clear c3
     try clear c4
     try clear c6
     try clear c6b0
     try clear c7
     try clear c9
     try clear c11
     try clear c11b0
     try clear c12
     try clear c12b0
     try clear p2
     obtain ⟨kq, x41_9, rfl, HA, HJ9, ⟨mc9, rfl⟩⟩ := hcut
     cases kq with
     | zero => exact absurd HA.out (by simp [paybooklaw03_PurseParts.j1])
     | succ kj9 =>
      have H := HA.out
      clear HA
      simp only [paybooklaw03_PurseParts.j1] at H
      by_cases c13 : x41_9 = true
      ·subst c13
       have H1 : ((paybooklaw03_awake.f kj9).bind fun t119 => (if t119 = true then (some (t117 == 1)) else (some false))) = some true := by rw [if_pos rfl] at H; exact H
       clear H
       have H := H1
       clear H1
       replace H := Option.bind_eq_some_iff.mp H
       obtain ⟨t119, A140, H⟩ := H
       replace H : (if t119 = true then (some (t117 == 1)) else (some false)) = some true := H
       have A14 := Aside0.mk A140
       clear A140
       by_cases c15 : t119 = true
       ·subst c15
        have H1 : (some (t117 == 1)) = some true := by rw [if_pos rfl] at H; exact H
        clear H
        have H := H1
        clear H1
        have HT_ := Option.some.inj H
        clear H
        (try (have HT_z_ := HT_; simp only [beq_true, beq_false, true_beq, false_beq, Bool.not_eq_true', Bool.not_eq_false', Bool.not_true, Bool.not_false] at HT_z_))
        go_wp2_with (first | (go_at_call 10; (with_reducible refine (paybooklaw03_awake.calls kj9  true _ A14.out).mono ?_); rintro e w' ⟨rfl, ⟨nd, rfl⟩⟩))
        go_ret
        exact ⟨by first | rfl | (simp; done) | (simp [*]; done), by repeat (first | exact Drawn0.refl _ | apply Drawn0.step)⟩
       ·replace c15 := Bool.eq_false_iff.mpr c15
        subst c15
        have H1 : (some false) = some true := by rw [if_neg (show ¬ (false = true) by decide)] at H; exact H
        clear H
        have H := H1
        clear H1
        exact absurd H (by simp)
      ·replace c13 := Bool.eq_false_iff.mpr c13
       subst c13
       have H1 : (paybooklaw03_PurseParts.l0 kj9 a0 a1 a2 t116 t117 0 0 50) = some true := by rw [if_neg (show ¬ (false = true) by decide)] at H; exact H
       clear H
       have H := H1
       clear H1
       have H' := Aside0.mk H
       clear H
       go_wp2
       go_loopg [9, 10, 11] kj9 (fun kq v9 v10 v11 w' => ∃ (x9_3 : Int) (x10_3 : Int) (x11_3 : Int), v9 = .int .i64 x9_3 ∧ v10 = .int .u64 x10_3 ∧ v11 = .int .i64 x11_3 ∧ Aside0 (paybooklaw03_PurseParts.l0 kq a0 a1 a2 t116 t117 x9_3 x10_3 x11_3 = some true) ∧ Aside0 (kq ≤ kj9) ∧ Drawn0 w w')
       case atStart => exact ⟨(0), (0), (50), (by first | rfl | (simp; done) | (simp [*]; done)), (by first | rfl | (simp; done) | (simp [*]; done)), (by first | rfl | (simp; done) | (simp [*]; done)), H', ⟨Nat.le_refl _⟩, by repeat (first | exact Drawn0.refl _ | apply Drawn0.step)⟩
       case round =>
        clear H'
        try clear c1
        try clear p2
        try clear c3
        try clear c4
        try clear c6
        try clear c6b0
        try clear c7
        try clear c9
        try clear c11
        try clear c11b0
        try clear c12
        try clear c12b0
        try clear c13
        try clear c15
        try clear p2
        obtain ⟨x9_3, x10_3, x11_3, rfl, rfl, rfl, HA, HK3, ⟨m3, rfl⟩⟩ := hrel
        cases gk with
        | zero => exact absurd HA.out (by simp [paybooklaw03_PurseParts.l0])
        | succ k3 =>
         have H := HA.out
         clear HA
         simp only [paybooklaw03_PurseParts.l0] at H
         by_cases c16 : x11_3 ≥ 0
         ·rw [if_pos c16] at H
          have c16b0 : decide (0 ≤ x11_3) = true := decide_eq_true c16
          clear c16
          have HC17 := Aside0.mk H
          clear H
          go_upto_region 14 with (fail)
          go_cut [63] (fun v63 wc => ∃ (kq : Nat) (x63_16 : Bool), v63 = .bool x63_16 ∧ Aside0 (paybooklaw03_PurseParts.j3 kq a0 a1 a2 t116 t117 (wrap64 (2 * x9_3)) (IntKind.u64.wrap (2 * x10_3)) x11_3 x63_16 = some true) ∧ Aside0 (kq ≤ k3) ∧ Drawn0 w wc)
          case first =>
           have H := HC17.out
           clear HC17
           by_cases c18 : x10_3 ≥ 9223372036854775808
           ·rw [if_pos c18] at H
            have c18b0 : decide (9223372036854775808 ≤ x10_3) = true := decide_eq_true c18
            clear c18
            (first | (generalize hg_ : decide (9223372036854775808 ≤ x10_3) = bg_ at *; subst c18b0; have c18b0 := hg_; clear hg_) | rw [c18b0] | (simp only [i64_w, i32_w]; rw [c18b0]) | skip)
            have H' := Aside0.mk H
            clear H
            go_wp2
            go_meet
            case rel => exact ⟨_, (true), (by first | rfl | (simp; done) | (simp [*]; done)), H', ⟨by have := HJ4.out; have := HJ9.out; have := HK3.out; first | omega | exact Nat.le_refl _⟩, by repeat (first | exact Drawn0.refl _ | apply Drawn0.step)⟩
           ·rw [if_neg c18] at H
            have c18b0 : decide (9223372036854775808 ≤ x10_3) = false := decide_eq_false c18
            clear c18
            (first | (generalize hg_ : decide (9223372036854775808 ≤ x10_3) = bg_ at *; subst c18b0; have c18b0 := hg_; clear hg_) | rw [c18b0] | (simp only [i64_w, i32_w]; rw [c18b0]) | skip)
            have H' := Aside0.mk H
            clear H
            go_wp2
            go_meet
            case rel => exact ⟨_, (decide ((IntKind.u64.wrap (2 * x10_3)) ≥ (IntKind.u64.wrap (a2)))), (by first | rfl | (simp; done) | (simp [*]; done)), H', ⟨by have := HJ4.out; have := HJ9.out; have := HK3.out; first | omega | exact Nat.le_refl _⟩, by repeat (first | exact Drawn0.refl _ | apply Drawn0.step)⟩
          case rest =>
           clear HC17
           try clear c1
           try clear p2
           try clear c3
           try clear c4
           try clear c6
           try clear c6b0
           try clear p6
           try clear c7
           try clear c9
           try clear c11
           try clear c11b0
           try clear c12
           try clear c12b0
           try clear c13
           try clear c15
           try clear c16
           try clear c16b0
           try clear c18
           try clear c18b0
           try clear p2
           obtain ⟨kq, x63_16, rfl, HA, HJ16, ⟨mc16, rfl⟩⟩ := hcut
           cases kq with
           | zero => exact absurd HA.out (by simp [paybooklaw03_PurseParts.j3])
           | succ kj16 =>
            have H := HA.out
            clear HA
            simp only [paybooklaw03_PurseParts.j3] at H
            have HC19 := Aside0.mk H
            clear H
            go_upto_if 63 with (fail)
            go_cut [9, 10] (fun v9 v10 wc => ∃ (kq : Nat) (x9_18 : Int) (x10_18 : Int), v9 = .int .i64 x9_18 ∧ v10 = .int .u64 x10_18 ∧ Aside0 (paybooklaw03_PurseParts.j4 kq a0 a1 a2 t116 t117 x9_18 x10_18 x11_3 = some true) ∧ Aside0 (kq ≤ kj16) ∧ Drawn0 w wc)
            case first =>
             have H := HC19.out
             clear HC19
             by_cases c20 : x63_16 = true
             ·subst c20
              have H1 : (paybooklaw03_PurseParts.j4 kj16 a0 a1 a2 t116 t117 (wrap64 ((wrap64 (2 * x9_3)) + 1)) (IntKind.u64.wrap ((IntKind.u64.wrap (2 * x10_3)) - (IntKind.u64.wrap (a2)))) x11_3) = some true := by rw [if_pos rfl] at H; exact H
              clear H
              have H := H1
              clear H1
              have H' := Aside0.mk H
              clear H
              go_wp2
              go_meet
              case rel => exact ⟨_, (wrap64 ((wrap64 (2 * x9_3)) + 1)), (IntKind.u64.wrap ((IntKind.u64.wrap (2 * x10_3)) - (IntKind.u64.wrap (a2)))), (by first | rfl | (simp; done) | (simp [*]; done)), (by first | rfl | (simp; done) | (simp [*]; done)), H', ⟨by have := HJ4.out; have := HJ9.out; have := HK3.out; have := HJ16.out; first | omega | exact Nat.le_refl _⟩, by repeat (first | exact Drawn0.refl _ | apply Drawn0.step)⟩
             ·replace c20 := Bool.eq_false_iff.mpr c20
              subst c20
              have H1 : (paybooklaw03_PurseParts.j4 kj16 a0 a1 a2 t116 t117 (wrap64 (2 * x9_3)) (IntKind.u64.wrap (2 * x10_3)) x11_3) = some true := by rw [if_neg (show ¬ (false = true) by decide)] at H; exact H
              clear H
              have H := H1
              clear H1
              have H' := Aside0.mk H
              clear H
              go_wp2
              go_meet
              case rel => exact ⟨_, ((wrap64 (2 * x9_3))), ((IntKind.u64.wrap (2 * x10_3))), (by first | rfl | (simp; done) | (simp [*]; done)), (by first | rfl | (simp; done) | (simp [*]; done)), H', ⟨by have := HJ4.out; have := HJ9.out; have := HK3.out; have := HJ16.out; first | omega | exact Nat.le_refl _⟩, by repeat (first | exact Drawn0.refl _ | apply Drawn0.step)⟩
            case rest =>
             clear HC19
             try clear c1
             try clear c2
             try clear p2
             try clear c3
             try clear c4
             try clear c6
             try clear c6b0
             try clear p6
             try clear c7
             try clear c9
             try clear c11
             try clear c11b0
             try clear c12
             try clear c12b0
             try clear c13
             try clear c15
             try clear c16
             try clear c16b0
             try clear c18
             try clear c18b0
             try clear c20
             try clear p2
             try clear p6
             obtain ⟨kq, x9_18, x10_18, rfl, rfl, HA, HJ18, ⟨mc18, rfl⟩⟩ := hcut
             cases kq with
             | zero => exact absurd HA.out (by simp [paybooklaw03_PurseParts.j4])
             | succ kj18 =>
              have H := HA.out
              clear HA
              simp only [paybooklaw03_PurseParts.j4] at H
              by_cases c21 : 0 ≤ x11_3
              ·rw [if_pos c21] at H
               have c21b0 := eq_true c21
               have c21b1 : decide (0 ≤ x11_3) = true := decide_eq_true c21
               clear c21
               obtain ⟨ji22, hji22⟩ : ∃ j_ : Int, (shr .i64 a0 x11_3) = j_ := ⟨_, rfl⟩
               replace H : (if (Int.tmod (ji22) 2) = 1 then (if x10_18 ≥ (IntKind.u64.wrap ((IntKind.u64.wrap (a2)) - (IntKind.u64.wrap (a1)))) then (paybooklaw03_PurseParts.l0 kj18 a0 a1 a2 t116 t117 (wrap64 (x9_18 + 1)) (IntKind.u64.wrap (x10_18 - (IntKind.u64.wrap ((IntKind.u64.wrap (a2)) - (IntKind.u64.wrap (a1)))))) (wrap64 (x11_3 - 1))) else (paybooklaw03_PurseParts.l0 kj18 a0 a1 a2 t116 t117 x9_18 (IntKind.u64.wrap (x10_18 + (IntKind.u64.wrap (a1)))) (wrap64 (x11_3 - 1)))) else (paybooklaw03_PurseParts.l0 kj18 a0 a1 a2 t116 t117 x9_18 x10_18 (wrap64 (x11_3 - 1)))) = some true := by first | (rw [hji22] at H; exact H) | (simp only [hji22] at H ⊢; exact H)
               have hji22_ : (a0 / 2 ^ min x11_3.toNat 64) = ji22 := hji22
               have hji22z : x11_3 ≤ 64 → (a0 / 2 ^ x11_3.toNat) = ji22 := shr_small hji22
               by_cases c23 : (Int.tmod (ji22) 2) = 1
               ·rw [if_pos c23] at H
                have c23b0 : ((Int.tmod (ji22) 2) == 1) = true := beq_iff_eq.mpr c23
                have c23b1 : ((Int.tmod (ji22) 2) != 1) = false := bne_eq_false_iff_eq.mpr c23
                clear c23
                by_cases c24 : x10_18 ≥ (IntKind.u64.wrap ((IntKind.u64.wrap (a2)) - (IntKind.u64.wrap (a1))))
                ·rw [if_pos c24] at H
                 have c24b0 : decide ((IntKind.u64.wrap ((IntKind.u64.wrap (a2)) - (IntKind.u64.wrap (a1)))) ≤ x10_18) = true := decide_eq_true c24
                 clear c24
                 have H' := Aside0.mk H
                 clear H
                 go_wp2
                 go_roundg kj18
                 case measure => have := HJ4.out; have := HJ9.out; have := HK3.out; have := HJ16.out; have := HJ18.out; omega
                 case rel => exact ⟨(wrap64 (x9_18 + 1)), (IntKind.u64.wrap (x10_18 - (IntKind.u64.wrap ((IntKind.u64.wrap (a2)) - (IntKind.u64.wrap (a1)))))), (wrap64 (x11_3 - 1)), (by first | rfl | (simp; done) | (simp [*]; done)), (by first | rfl | (simp; done) | (simp [*]; done)), (by first | rfl | (simp; done) | (simp [*]; done)), H', ⟨by have := HJ4.out; have := HJ9.out; have := HK3.out; have := HJ16.out; have := HJ18.out; omega⟩, by repeat (first | exact Drawn0.refl _ | apply Drawn0.step)⟩
                ·rw [if_neg c24] at H
                 have c24b0 : decide ((IntKind.u64.wrap ((IntKind.u64.wrap (a2)) - (IntKind.u64.wrap (a1)))) ≤ x10_18) = false := decide_eq_false c24
                 clear c24
                 have H' := Aside0.mk H
                 clear H
                 go_wp2
                 go_roundg kj18
                 case measure => have := HJ4.out; have := HJ9.out; have := HK3.out; have := HJ16.out; have := HJ18.out; omega
                 case rel => exact ⟨(x9_18), (IntKind.u64.wrap (x10_18 + (IntKind.u64.wrap (a1)))), (wrap64 (x11_3 - 1)), (by first | rfl | (simp; done) | (simp [*]; done)), (by first | rfl | (simp; done) | (simp [*]; done)), (by first | rfl | (simp; done) | (simp [*]; done)), H', ⟨by have := HJ4.out; have := HJ9.out; have := HK3.out; have := HJ16.out; have := HJ18.out; omega⟩, by repeat (first | exact Drawn0.refl _ | apply Drawn0.step)⟩
               ·rw [if_neg c23] at H
                have c23b0 : ((Int.tmod (ji22) 2) == 1) = false := beq_eq_false_iff_ne.mpr c23
                have c23b1 : ((Int.tmod (ji22) 2) != 1) = true := bne_iff_ne.mpr c23
                have H' := Aside0.mk H
                clear H
                go_wp2
                go_roundg kj18
                case measure => have := HJ4.out; have := HJ9.out; have := HK3.out; have := HJ16.out; have := HJ18.out; omega
                case rel => exact ⟨(x9_18), (x10_18), (wrap64 (x11_3 - 1)), (by first | rfl | (simp; done) | (simp [*]; done)), (by first | rfl | (simp; done) | (simp [*]; done)), (by first | rfl | (simp; done) | (simp [*]; done)), H', ⟨by have := HJ4.out; have := HJ9.out; have := HK3.out; have := HJ16.out; have := HJ18.out; omega⟩, by repeat (first | exact Drawn0.refl _ | apply Drawn0.step)⟩
              ·rw [if_neg c21] at H
               exact absurd H (by simp)
         ·rw [if_neg c16] at H
          have c16b0 : decide (0 ≤ x11_3) = false := decide_eq_false c16
          clear c16
          replace H := Option.bind_eq_some_iff.mp H
          obtain ⟨t120, A250, H⟩ := H
          replace H : (if t120 = true then (if t117 = 0 then (if t116 = x9_3 then (if t116 ≥ 0 then (some (decide (t116 ≤ a0))) else (some false)) else (some false)) else (some false)) else (some false)) = some true := H
          have A25 := Aside0.mk A250
          clear A250
          by_cases c26 : t120 = true
          ·subst c26
           have H1 : (if t117 = 0 then (if t116 = x9_3 then (if t116 ≥ 0 then (some (decide (t116 ≤ a0))) else (some false)) else (some false)) else (some false)) = some true := by rw [if_pos rfl] at H; exact H
           clear H
           have H := H1
           clear H1
           by_cases c27 : t117 = 0
           ·rw [if_pos c27] at H
            have c27b0 : (t117 == 0) = true := beq_iff_eq.mpr c27
            have c27b1 : (t117 != 0) = false := bne_eq_false_iff_eq.mpr c27
            clear c27
            by_cases c28 : t116 = x9_3
            ·rw [if_pos c28] at H
             have c28b0 : (t116 == x9_3) = true := beq_iff_eq.mpr c28
             have c28b1 : (t116 != x9_3) = false := bne_eq_false_iff_eq.mpr c28
             clear c28
             by_cases c29 : t116 ≥ 0
             ·rw [if_pos c29] at H
              have c29b0 : decide (0 ≤ t116) = true := decide_eq_true c29
              clear c29
              have HT_ := Option.some.inj H
              clear H
              (try (have HT_z_ := HT_; simp only [beq_true, beq_false, true_beq, false_beq, Bool.not_eq_true', Bool.not_eq_false', Bool.not_true, Bool.not_false] at HT_z_))
              go_wp2_with (first | (go_at_call 10; (with_reducible refine (paybooklaw03_awake.calls k3  true _ A25.out).mono ?_); rintro e w' ⟨rfl, ⟨nd, rfl⟩⟩))
              go_ret
              exact ⟨by first | rfl | (simp; done) | (simp [*]; done), by repeat (first | exact Drawn0.refl _ | apply Drawn0.step)⟩
             ·rw [if_neg c29] at H
              have c29b0 : decide (0 ≤ t116) = false := decide_eq_false c29
              clear c29
              exact absurd H (by simp)
            ·rw [if_neg c28] at H
             have c28b0 : (t116 == x9_3) = false := beq_eq_false_iff_ne.mpr c28
             have c28b1 : (t116 != x9_3) = true := bne_iff_ne.mpr c28
             exact absurd H (by simp)
           ·rw [if_neg c27] at H
            have c27b0 : (t117 == 0) = false := beq_eq_false_iff_ne.mpr c27
            have c27b1 : (t117 != 0) = true := bne_iff_ne.mpr c27
            exact absurd H (by simp)
          ·replace c26 := Bool.eq_false_iff.mpr c26
           subst c26
           have H1 : (some false) = some true := by rw [if_neg (show ¬ (false = true) by decide)] at H; exact H
           clear H
           have H := H1
           clear H1
           exact absurd H (by simp)

/-- THE ONE PURE STATEMENT of paybooklaw03_PurseParts: yours. -/
def paybooklaw03_PurseParts.Pure : Prop := ∀ (a0 : Int) (a1 : Int) (a2 : Int), (Lit.int .i64 a0).wf = true → (Lit.int .i64 a1).wf = true → (Lit.int .i64 a2).wf = true → ∃ k, paybooklaw03_PurseParts.f k a0 a1 a2 = some true
theorem paybooklaw03_PurseParts.walk (P : paybooklaw03_PurseParts.Pure) (a0 : Int) (a1 : Int) (a2 : Int) (w : World) (w0 : (Lit.int .i64 a0).wf = true) (w1 : (Lit.int .i64 a1).wf = true) (w2 : (Lit.int .i64 a2).wf = true) :
  Calls Try.prog 3 #[.int .i64 a0, .int .i64 a1, .int .i64 a2] w fun e w' => e = .returned (.bool true) ∧ Below w.heap.size w w' := by
 obtain ⟨k, h⟩ := P a0 a1 a2 w0 w1 w2
 refine (paybooklaw03_PurseParts.calls k a0 a1 a2 w h).mono ?_
 rintro e w' ⟨rfl, hd⟩
 exact ⟨rfl, hd.below⟩

end Go.Proofs.Ytkmngemohhncaaa.PA
