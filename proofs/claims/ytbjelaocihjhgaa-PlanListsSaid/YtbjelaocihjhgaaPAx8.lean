-- printed by this workplace: wip/patchprint.py over the kit's print
import Derived.Test.YtbjelaocihjhgaaPAx0
import Derived.Test.YtbjelaocihjhgaaPAx3
import Derived.Test.YtbjelaocihjhgaaPAx4
import Derived.Test.YtbjelaocihjhgaaPAx7
namespace Go.Proofs.Ytbjelaocihjhgaa.PA
open Go.RowKit Go.Proofs.YtbjelaocihjhgaaW.PrintWords Go.Proofs.YtbjelaocihjhgaaW.PrintLast Go.Proofs.YtbjelaocihjhgaaW.PrintMore
attribute [local go_sem] max2_int min2_int max_two min_two max_three min_three max_four min_four   -- for this text's walks alone
set_option linter.unusedVariables false
set_option linter.unusedSimpArgs false

/-! ### purse_Part: function 10 -/
mutual
def purse_Part.j0 : Nat → Int → Int → Int → Bool → Option (Int × Int)
 | 0, _, _, _, _ => none
 | k + 1, x0, x1, x2, x12 => if x12 = true then (some (0, 9)) else (if x2 < 1 then (purse_Part.j1 k x0 x1 x2 true) else (if x1 < 0 then (purse_Part.j1 k x0 x1 x2 true) else (purse_Part.j1 k x0 x1 x2 (decide (x1 > x2)))))
def purse_Part.j1 : Nat → Int → Int → Int → Bool → Option (Int × Int)
 | 0, _, _, _, _ => none
 | k + 1, x0, x1, x2, x20 => if x20 = true then (some (0, 1)) else ((bits_Mul64.f (IntKind.u64.wrap (x0)) (IntKind.u64.wrap (x1))).bind fun bt106 => ((bits_Div64.f k bt106.1 bt106.2 (IntKind.u64.wrap (x2))).bind fun bt108 => (some (wrap64 (bt108.1), 0))))
end
def purse_Part.f (k : Nat) (a0 : Int) (a1 : Int) (a2 : Int) : Option (Int × Int) := if a0 < 0 then (purse_Part.j0 k a0 a1 a2 true) else ((purse_Right.f a0).bind fun t105 => (purse_Part.j0 k a0 a1 a2 (!t105)))
theorem purse_Part.mono_l : ∀ k, (∀ y0 y1 y2 y3, LeO (purse_Part.j0 k y0 y1 y2 y3) (purse_Part.j0 (k + 1) y0 y1 y2 y3)) ∧ (∀ y0 y1 y2 y3, LeO (purse_Part.j1 k y0 y1 y2 y3) (purse_Part.j1 (k + 1) y0 y1 y2 y3))
 | 0 => ⟨fun _ _ _ _ r h => by simp [purse_Part.j0] at h, fun _ _ _ _ r h => by simp [purse_Part.j1] at h⟩
 | k + 1 => by
  obtain ⟨ih0, ih1⟩ := purse_Part.mono_l k
  refine ⟨?_, ?_⟩
  ·intro y0 y1 y2 y3
   unfold purse_Part.j0
   repeat' first
   | (with_reducible exact ih0 _ _ _ _)
   | (with_reducible exact ih1 _ _ _ _)
   | (with_reducible exact bits_Div64.mono _ _ _ _)
   | (with_reducible exact LeO.refl _)
   | (with_reducible exact LeO.none _)
   | (with_reducible refine LeO.ite ?_ ?_)
   | (with_reducible refine LeO.bind ?_ (fun _ => ?_))
   | exact ih0 _ _ _ _
   | exact ih1 _ _ _ _
   | exact bits_Div64.mono _ _ _ _
   | exact LeO.none _
   | refine LeO.ite ?_ ?_
   | refine LeO.bind ?_ (fun _ => ?_)
  ·intro y0 y1 y2 y3
   unfold purse_Part.j1
   repeat' first
   | (with_reducible exact ih0 _ _ _ _)
   | (with_reducible exact ih1 _ _ _ _)
   | (with_reducible exact bits_Div64.mono _ _ _ _)
   | (with_reducible exact LeO.refl _)
   | (with_reducible exact LeO.none _)
   | (with_reducible refine LeO.ite ?_ ?_)
   | (with_reducible refine LeO.bind ?_ (fun _ => ?_))
   | exact ih0 _ _ _ _
   | exact ih1 _ _ _ _
   | exact bits_Div64.mono _ _ _ _
   | exact LeO.none _
   | refine LeO.ite ?_ ?_
   | refine LeO.bind ?_ (fun _ => ?_)
theorem purse_Part.mono : ∀ a0 a1 a2 k, LeO (purse_Part.f k a0 a1 a2) (purse_Part.f (k + 1) a0 a1 a2) := by
 intro a0 a1 a2 k
 obtain ⟨ih0, ih1⟩ := purse_Part.mono_l k
 unfold purse_Part.f
 repeat' first
   | (with_reducible exact ih0 _ _ _ _)
   | (with_reducible exact ih1 _ _ _ _)
   | (with_reducible exact bits_Div64.mono _ _ _ _)
   | (with_reducible exact LeO.refl _)
   | (with_reducible exact LeO.none _)
   | (with_reducible refine LeO.ite ?_ ?_)
   | (with_reducible refine LeO.bind ?_ (fun _ => ?_))
   | exact ih0 _ _ _ _
   | exact ih1 _ _ _ _
   | exact bits_Div64.mono _ _ _ _
   | exact LeO.none _
   | refine LeO.ite ?_ ?_
   | refine LeO.bind ?_ (fun _ => ?_)
set_option maxHeartbeats 40000000 in
set_option maxRecDepth 100000 in
theorem purse_Part.calls (k : Nat) (a0 : Int) (a1 : Int) (a2 : Int) (r1 : Int) (r2 : Int) (w : World) (h : purse_Part.f k a0 a1 a2 = some (r1, r2)) :
  Calls Try.prog 10 #[.int .i64 a0, .int .i64 a1, .int .i64 a2] w fun e w' => e = .returned (.tuple #[.int .i64 r1, .int .i64 r2]) ∧ Drawn0 w w' := by
 have H : (if a0 < 0 then (purse_Part.j0 k a0 a1 a2 true) else ((purse_Right.f a0).bind fun t105 => (purse_Part.j0 k a0 a1 a2 (!t105)))) = some (r1, r2) := h
 clear h
 have HC4 := Aside0.mk H
 clear H
 go_enter Try.func10, Try.ntmps10
 go_upto_region 1 with (fail)
 go_cut [12] (fun v12 wc => ∃ (kq : Nat) (x12_3 : Bool), v12 = .bool x12_3 ∧ Aside0 (purse_Part.j0 kq a0 a1 a2 x12_3 = some (r1, r2)) ∧ Aside0 (kq ≤ k) ∧ Drawn0 w wc)
 case first =>
  have H := HC4.out
  clear HC4
  by_cases c5 : a0 < 0
  ·rw [if_pos c5] at H
   have c5b0 : decide (a0 < 0) = true := decide_eq_true c5
   clear c5
   (first | (generalize hg_ : decide (a0 < 0) = bg_ at *; subst c5b0; have c5b0 := hg_; clear hg_) | rw [c5b0] | (simp only [i64_w, i32_w]; rw [c5b0]) | skip)
   have H' := Aside0.mk H
   clear H
   go_wp2
   go_meet
   case rel => exact ⟨_, (true), (by first | rfl | (simp; done) | (simp [*]; done)), (by first | (with_reducible exact H') | (simp only [*]; with_reducible exact H') | exact H'), ⟨by first | omega | exact Nat.le_refl _⟩, by repeat (first | exact Drawn0.refl _ | apply Drawn0.step)⟩
  ·rw [if_neg c5] at H
   have c5b0 : decide (a0 < 0) = false := decide_eq_false c5
   clear c5
   (first | (generalize hg_ : decide (a0 < 0) = bg_ at *; subst c5b0; have c5b0 := hg_; clear hg_) | rw [c5b0] | (simp only [i64_w, i32_w]; rw [c5b0]) | skip)
   replace H := Option.bind_eq_some_iff.mp H
   obtain ⟨t105, A60, H⟩ := H
   replace H : (purse_Part.j0 k a0 a1 a2 (!t105)) = some (r1, r2) := H
   have A6 := Aside0.mk A60
   clear A60
   have H' := Aside0.mk H
   clear H
   go_wp2_with (first | (go_at_call 27; (with_reducible refine (purse_Right.calls a0 t105 _ A6.out).mono ?_); rintro e w' ⟨rfl, ⟨nd, rfl⟩⟩))
   go_meet
   case rel => exact ⟨_, (!t105), (by first | rfl | (simp; done) | (simp [*]; done)), (by first | (with_reducible exact H') | (simp only [*]; with_reducible exact H') | exact H'), ⟨by first | omega | exact Nat.le_refl _⟩, by repeat (first | exact Drawn0.refl _ | apply Drawn0.step)⟩
 case rest =>
  clear HC4
  try clear c1
  try clear p2
  try clear c5
  try clear c5b0
  obtain ⟨kq, x12_3, rfl, HA, HJ3, ⟨mc3, rfl⟩⟩ := hcut
  cases kq with
  | zero => exact absurd HA.out (by simp [purse_Part.j0])
  | succ kj3 =>
   have H := HA.out
   clear HA
   simp only [purse_Part.j0] at H
   by_cases c7 : x12_3 = true
   ·subst c7
    have H1 : (some (0, 9)) = some (r1, r2) := by rw [if_pos rfl] at H; try exact H
    clear H
    have H := H1
    clear H1
    simp only [Option.some.injEq, Prod.mk.injEq] at H
    obtain ⟨rfl, rfl⟩ := H
    go_wp2
    go_ret2
    exact ⟨by first | rfl | (simp; done) | (simp [*]; done), by repeat (first | exact Drawn0.refl _ | apply Drawn0.step)⟩
   ·replace c7 := Bool.eq_false_iff.mpr c7
    subst c7
    have H1 : (if a2 < 1 then (purse_Part.j1 kj3 a0 a1 a2 true) else (if a1 < 0 then (purse_Part.j1 kj3 a0 a1 a2 true) else (purse_Part.j1 kj3 a0 a1 a2 (decide (a1 > a2))))) = some (r1, r2) := by rw [if_neg (show ¬ (false = true) by decide)] at H; try exact H
    clear H
    have H := H1
    clear H1
    have HC8 := Aside0.mk H
    clear H
    go_upto_region 3 with (fail)
    go_cut [20] (fun v20 wc => ∃ (kq : Nat) (x20_7 : Bool), v20 = .bool x20_7 ∧ Aside0 (purse_Part.j1 kq a0 a1 a2 x20_7 = some (r1, r2)) ∧ Aside0 (kq ≤ kj3) ∧ Drawn0 w wc)
    case first =>
     have H := HC8.out
     clear HC8
     by_cases c9 : a2 < 1
     ·rw [if_pos c9] at H
      have c9b0 : decide (a2 < 1) = true := decide_eq_true c9
      clear c9
      (first | (generalize hg_ : decide (a2 < 1) = bg_ at *; subst c9b0; have c9b0 := hg_; clear hg_) | rw [c9b0] | (simp only [i64_w, i32_w]; rw [c9b0]) | skip)
      have H' := Aside0.mk H
      clear H
      go_wp2
      go_meet
      case rel => exact ⟨_, (true), (by first | rfl | (simp; done) | (simp [*]; done)), (by first | (with_reducible exact H') | (simp only [*]; with_reducible exact H') | exact H'), ⟨by have := HJ3.out; first | omega | exact Nat.le_refl _⟩, by repeat (first | exact Drawn0.refl _ | apply Drawn0.step)⟩
     ·rw [if_neg c9] at H
      have c9b0 : decide (a2 < 1) = false := decide_eq_false c9
      clear c9
      (first | (generalize hg_ : decide (a2 < 1) = bg_ at *; subst c9b0; have c9b0 := hg_; clear hg_) | rw [c9b0] | (simp only [i64_w, i32_w]; rw [c9b0]) | skip)
      by_cases c10 : a1 < 0
      ·rw [if_pos c10] at H
       have c10b0 : decide (a1 < 0) = true := decide_eq_true c10
       clear c10
       have H' := Aside0.mk H
       clear H
       go_wp2
       go_meet
       case rel => exact ⟨_, (true), (by first | rfl | (simp; done) | (simp [*]; done)), (by first | (with_reducible exact H') | (simp only [*]; with_reducible exact H') | exact H'), ⟨by have := HJ3.out; first | omega | exact Nat.le_refl _⟩, by repeat (first | exact Drawn0.refl _ | apply Drawn0.step)⟩
      ·rw [if_neg c10] at H
       have c10b0 : decide (a1 < 0) = false := decide_eq_false c10
       clear c10
       have H' := Aside0.mk H
       clear H
       go_wp2
       go_meet
       case rel => exact ⟨_, (decide (a1 > a2)), (by first | rfl | (simp; done) | (simp [*]; done)), (by first | (with_reducible exact H') | (simp only [*]; with_reducible exact H') | exact H'), ⟨by have := HJ3.out; first | omega | exact Nat.le_refl _⟩, by repeat (first | exact Drawn0.refl _ | apply Drawn0.step)⟩
    case rest =>
     clear HC8
     try clear c1
     try clear p2
     try clear c3
     try clear c5
     try clear c5b0
     try clear c7
     try clear c9
     try clear c9b0
     try clear c10
     try clear c10b0
     try clear p2
     obtain ⟨kq, x20_7, rfl, HA, HJ7, ⟨mc7, rfl⟩⟩ := hcut
     cases kq with
     | zero => exact absurd HA.out (by simp [purse_Part.j1])
     | succ kj7 =>
      have H := HA.out
      clear HA
      simp only [purse_Part.j1] at H
      by_cases c11 : x20_7 = true
      ·subst c11
       have H1 : (some (0, 1)) = some (r1, r2) := by rw [if_pos rfl] at H; try exact H
       clear H
       have H := H1
       clear H1
       simp only [Option.some.injEq, Prod.mk.injEq] at H
       obtain ⟨rfl, rfl⟩ := H
       go_wp2
       go_ret2
       exact ⟨by first | rfl | (simp; done) | (simp [*]; done), by repeat (first | exact Drawn0.refl _ | apply Drawn0.step)⟩
      ·replace c11 := Bool.eq_false_iff.mpr c11
       subst c11
       have H1 : ((bits_Mul64.f (IntKind.u64.wrap (a0)) (IntKind.u64.wrap (a1))).bind fun bt106 => ((bits_Div64.f kj7 bt106.1 bt106.2 (IntKind.u64.wrap (a2))).bind fun bt108 => (some (wrap64 (bt108.1), 0)))) = some (r1, r2) := by rw [if_neg (show ¬ (false = true) by decide)] at H; try exact H
       clear H
       have H := H1
       clear H1
       replace H := Option.bind_eq_some_iff.mp H
       obtain ⟨⟨t106, t107⟩, A120, H⟩ := H
       replace H : ((bits_Div64.f kj7 t106 t107 (IntKind.u64.wrap (a2))).bind fun bt108 => (some (wrap64 (bt108.1), 0))) = some (r1, r2) := H
       have A12 := Aside0.mk A120
       clear A120
       replace H := Option.bind_eq_some_iff.mp H
       obtain ⟨⟨t108, t109⟩, A130, H⟩ := H
       replace H : (some (wrap64 (t108), 0)) = some (r1, r2) := H
       have A13 := Aside0.mk A130
       clear A130
       simp only [Option.some.injEq, Prod.mk.injEq] at H
       obtain ⟨rfl, rfl⟩ := H
       go_wp2_with (first | ((with_reducible refine gate_callee (f := 28) rfl ?_); refine goesL_ (some 37) rfl rfl Try.func28 (by kernel_rfl) rfl #[.int .u64 (IntKind.u64.wrap (a0)), .int .u64 (IntKind.u64.wrap (a1))] rfl (by (try simp only [List.map_toArray, List.map_cons, List.map_nil]); first | done | rfl | (simp only [List.length_drop, List.length_take]; rfl)) ?_; (with_reducible refine (bits_Mul64.calls (IntKind.u64.wrap (a0)) (IntKind.u64.wrap (a1)) t106 t107 _ A12.out).mono ?_); rintro e w' ⟨rfl, ⟨nd, rfl⟩⟩; refine ⟨_, rfl, ?_⟩) | ((with_reducible refine gate_callee (f := 29) rfl ?_); refine goesL_ (some 45) rfl rfl Try.func29 (by kernel_rfl) rfl #[.int .u64 t106, .int .u64 t107, .int .u64 (IntKind.u64.wrap (a2))] rfl (by (try simp only [List.map_toArray, List.map_cons, List.map_nil]); first | done | rfl | (simp only [List.length_drop, List.length_take]; rfl)) ?_; (with_reducible refine (bits_Div64.calls kj7 t106 t107 (IntKind.u64.wrap (a2)) t108 t109 _ A13.out).mono ?_); rintro e w' ⟨rfl, ⟨nd, rfl⟩⟩; refine ⟨_, rfl, ?_⟩))
       go_ret2
       exact ⟨by first | rfl | (simp; done) | (simp [*]; done), by repeat (first | exact Drawn0.refl _ | apply Drawn0.step)⟩

end Go.Proofs.Ytbjelaocihjhgaa.PA
