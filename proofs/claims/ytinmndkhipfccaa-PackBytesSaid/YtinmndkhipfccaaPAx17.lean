-- printed by this workplace: wip/patchprint.py over the kit's print
import Derived.Test.YtinmndkhipfccaaPAx0
namespace Go.Proofs.Ytinmndkhipfccaa.PA
open Go.RowKit Go.Proofs.YtinmndkhipfccaaW.PrintWords Go.Proofs.YtinmndkhipfccaaW.PrintLast Go.Proofs.YtinmndkhipfccaaW.PrintMore
attribute [local go_sem] max2_int min2_int max_two min_two max_three min_three max_four min_four   -- for this text's walks alone
set_option linter.unusedVariables false
set_option linter.unusedSimpArgs false

/-! ### paybookref05_Unpack: function 21 -/
mutual
def paybookref05_Unpack.l0 : Nat → List Int → Int → Int → Int → Option (Int × Int × Int)
 | 0, _, _, _, _ => none
 | k + 1, x0, x5, x6, x7 => if x7 < (x0.length : Int) then (if 0 ≤ x7 then (if (rd x0 x7) > 127 then (some (0, 0, 4)) else (if x7 = 10 then (if (IntKind.u64.wrap (Int.tmod (rd x0 x7) 64)) ≥ 16 then (paybookref05_Unpack.j1 k x0 x5 x6 x7 (IntKind.u64.wrap (Int.tmod (rd x0 x7) 64)) (decide ((rd x0 x7) < 64)) true) else (paybookref05_Unpack.j1 k x0 x5 x6 x7 (IntKind.u64.wrap (Int.tmod (rd x0 x7) 64)) (decide ((rd x0 x7) < 64)) (!(decide ((rd x0 x7) < 64))))) else (paybookref05_Unpack.j1 k x0 x5 x6 x7 (IntKind.u64.wrap (Int.tmod (rd x0 x7) 64)) (decide ((rd x0 x7) < 64)) false))) else (none)) else (some (0, 0, 5))
def paybookref05_Unpack.j1 : Nat → List Int → Int → Int → Int → Int → Bool → Bool → Option (Int × Int × Int)
 | 0, _, _, _, _, _, _, _ => none
 | k + 1, x0, x5, x6, x7, x8, x9, x41 => if x41 = true then (some (0, 0, 4)) else (if x9 = true then (if x8 = 0 then (paybookref05_Unpack.j2 k x0 x5 x6 x7 x8 x9 (decide (x7 > 0))) else (paybookref05_Unpack.j2 k x0 x5 x6 x7 x8 x9 false)) else (paybookref05_Unpack.j2 k x0 x5 x6 x7 x8 x9 false))
def paybookref05_Unpack.j2 : Nat → List Int → Int → Int → Int → Int → Bool → Bool → Option (Int × Int × Int)
 | 0, _, _, _, _, _, _, _ => none
 | k + 1, x0, x5, x6, x7, x8, x9, x50 => if x50 = true then (some (0, 0, 4)) else (if x9 = true then (if (Int.tmod (IntKind.u64.wrap (x5 + (IntKind.u64.wrap (x8 * x6)))) 2) = 1 then (some (wrap64 ((wrap64 (-(wrap64 (IntKind.u64.wrap (Int.tdiv (IntKind.u64.wrap (x5 + (IntKind.u64.wrap (x8 * x6)))) 2))))) - 1), wrap64 (x7 + 1), 0)) else (some (wrap64 (IntKind.u64.wrap (Int.tdiv (IntKind.u64.wrap (x5 + (IntKind.u64.wrap (x8 * x6)))) 2)), wrap64 (x7 + 1), 0))) else (paybookref05_Unpack.l0 k x0 (IntKind.u64.wrap (x5 + (IntKind.u64.wrap (x8 * x6)))) (IntKind.u64.wrap (x6 * 64)) (wrap64 (x7 + 1))))
end
def paybookref05_Unpack.f (k : Nat) (l0 : List Int) : Option (Int × Int × Int) := paybookref05_Unpack.l0 k l0 0 1 0
theorem paybookref05_Unpack.mono_l : ∀ k, (∀ y0 y1 y2 y3, LeO (paybookref05_Unpack.l0 k y0 y1 y2 y3) (paybookref05_Unpack.l0 (k + 1) y0 y1 y2 y3)) ∧ (∀ y0 y1 y2 y3 y4 y5 y6, LeO (paybookref05_Unpack.j1 k y0 y1 y2 y3 y4 y5 y6) (paybookref05_Unpack.j1 (k + 1) y0 y1 y2 y3 y4 y5 y6)) ∧ (∀ y0 y1 y2 y3 y4 y5 y6, LeO (paybookref05_Unpack.j2 k y0 y1 y2 y3 y4 y5 y6) (paybookref05_Unpack.j2 (k + 1) y0 y1 y2 y3 y4 y5 y6))
 | 0 => ⟨fun _ _ _ _ r h => by simp [paybookref05_Unpack.l0] at h, fun _ _ _ _ _ _ _ r h => by simp [paybookref05_Unpack.j1] at h, fun _ _ _ _ _ _ _ r h => by simp [paybookref05_Unpack.j2] at h⟩
 | k + 1 => by
  obtain ⟨ih0, ih1, ih2⟩ := paybookref05_Unpack.mono_l k
  refine ⟨?_, ?_, ?_⟩
  ·intro y0 y1 y2 y3
   unfold paybookref05_Unpack.l0
   repeat' first
   | (with_reducible exact ih0 _ _ _ _)
   | (with_reducible exact ih1 _ _ _ _ _ _ _)
   | (with_reducible exact ih2 _ _ _ _ _ _ _)
   | (with_reducible exact LeO.refl _)
   | (with_reducible exact LeO.none _)
   | (with_reducible refine LeO.ite ?_ ?_)
   | (with_reducible refine LeO.bind ?_ (fun _ => ?_))
   | exact ih0 _ _ _ _
   | exact ih1 _ _ _ _ _ _ _
   | exact ih2 _ _ _ _ _ _ _
   | exact LeO.none _
   | refine LeO.ite ?_ ?_
   | refine LeO.bind ?_ (fun _ => ?_)
  ·intro y0 y1 y2 y3 y4 y5 y6
   unfold paybookref05_Unpack.j1
   repeat' first
   | (with_reducible exact ih0 _ _ _ _)
   | (with_reducible exact ih1 _ _ _ _ _ _ _)
   | (with_reducible exact ih2 _ _ _ _ _ _ _)
   | (with_reducible exact LeO.refl _)
   | (with_reducible exact LeO.none _)
   | (with_reducible refine LeO.ite ?_ ?_)
   | (with_reducible refine LeO.bind ?_ (fun _ => ?_))
   | exact ih0 _ _ _ _
   | exact ih1 _ _ _ _ _ _ _
   | exact ih2 _ _ _ _ _ _ _
   | exact LeO.none _
   | refine LeO.ite ?_ ?_
   | refine LeO.bind ?_ (fun _ => ?_)
  ·intro y0 y1 y2 y3 y4 y5 y6
   unfold paybookref05_Unpack.j2
   repeat' first
   | (with_reducible exact ih0 _ _ _ _)
   | (with_reducible exact ih1 _ _ _ _ _ _ _)
   | (with_reducible exact ih2 _ _ _ _ _ _ _)
   | (with_reducible exact LeO.refl _)
   | (with_reducible exact LeO.none _)
   | (with_reducible refine LeO.ite ?_ ?_)
   | (with_reducible refine LeO.bind ?_ (fun _ => ?_))
   | exact ih0 _ _ _ _
   | exact ih1 _ _ _ _ _ _ _
   | exact ih2 _ _ _ _ _ _ _
   | exact LeO.none _
   | refine LeO.ite ?_ ?_
   | refine LeO.bind ?_ (fun _ => ?_)
theorem paybookref05_Unpack.mono : ∀ a0 k, LeO (paybookref05_Unpack.f k a0) (paybookref05_Unpack.f (k + 1) a0) := by
 intro a0 k
 obtain ⟨ih0, ih1, ih2⟩ := paybookref05_Unpack.mono_l k
 unfold paybookref05_Unpack.f
 repeat' first
   | (with_reducible exact ih0 _ _ _ _)
   | (with_reducible exact ih1 _ _ _ _ _ _ _)
   | (with_reducible exact ih2 _ _ _ _ _ _ _)
   | (with_reducible exact LeO.refl _)
   | (with_reducible exact LeO.none _)
   | (with_reducible refine LeO.ite ?_ ?_)
   | (with_reducible refine LeO.bind ?_ (fun _ => ?_))
   | exact ih0 _ _ _ _
   | exact ih1 _ _ _ _ _ _ _
   | exact ih2 _ _ _ _ _ _ _
   | exact LeO.none _
   | refine LeO.ite ?_ ?_
   | refine LeO.bind ?_ (fun _ => ?_)
set_option maxHeartbeats 40000000 in
set_option maxRecDepth 100000 in
theorem paybookref05_Unpack.calls (k : Nat) (A0 : Option Addr) (c0 : Nat) (l0 : List Int) (r1 : Int) (r2 : Int) (r3 : Int) (w : World) (hr0 : Kd.C (Kd.int .u8) w A0 l0.length l0) (hc0 : l0.length ≤ c0) (h : paybookref05_Unpack.f k l0 = some (r1, r2, r3)) :
  Calls Try.prog 21 #[.slice A0 l0.length c0] w fun e w' => e = .returned (.tuple #[.int .i64 r1, .int .i64 r2, .int .i64 r3]) ∧ Drawn0 w w' := by
 have HR0 := Aside0.mk hr0
 have HC0 := Aside0.mk hc0
 clear hr0 hc0
 have H : (paybookref05_Unpack.l0 k l0 0 1 0) = some (r1, r2, r3) := h
 clear h
 have H' := Aside0.mk H
 clear H
 go_enter Try.func21, Try.ntmps21
 go_wp2
 go_loopg [5, 6, 7] k (fun kq v5 v6 v7 w' => ∃ (x5_1 : Int) (x6_1 : Int) (x7_1 : Int), v5 = .int .u64 x5_1 ∧ v6 = .int .u64 x6_1 ∧ v7 = .int .i64 x7_1 ∧ Aside0 (paybookref05_Unpack.l0 kq l0 x5_1 x6_1 x7_1 = some (r1, r2, r3)) ∧ Aside0 (kq ≤ k) ∧ Drawn0 w w')
 case atStart => exact ⟨(0), (1), (0), (by first | rfl | (simp; done) | (simp [*]; done)), (by first | rfl | (simp; done) | (simp [*]; done)), (by first | rfl | (simp; done) | (simp [*]; done)), H', ⟨Nat.le_refl _⟩, by repeat (first | exact Drawn0.refl _ | apply Drawn0.step)⟩
 case round =>
  clear H'
  obtain ⟨x5_1, x6_1, x7_1, rfl, rfl, rfl, HA, HK1, ⟨m1, rfl⟩⟩ := hrel
  cases gk with
  | zero => exact absurd HA.out (by simp [paybookref05_Unpack.l0])
  | succ k1 =>
   have H := HA.out
   clear HA
   simp only [paybookref05_Unpack.l0] at H
   by_cases c2 : x7_1 < (l0.length : Int)
   ·rw [if_pos c2] at H
    have c2b0 : decide (x7_1 < (l0.length : Int)) = true := decide_eq_true c2
    clear c2
    by_cases c3 : 0 ≤ x7_1
    ·rw [if_pos c3] at H
     have c3b0 : decide (0 ≤ x7_1) = true := decide_eq_true c3
     clear c3
     by_cases c4 : (rd l0 x7_1) > 127
     ·rw [if_pos c4] at H
      have c4b0 : decide (127 < (rd l0 x7_1)) = true := decide_eq_true c4
      clear c4
      simp only [Option.some.injEq, Prod.mk.injEq] at H
      obtain ⟨rfl, rfl, rfl⟩ := H
      have p364 : 0 ≤ (x7_1 : Int) := of_decide_eq_true (by first | (with_reducible assumption) | assumption)
      have q364 : x7_1 < (l0.length : Int) := of_decide_eq_true (by first | (with_reducible assumption) | assumption)
      obtain ⟨ad364, e364, hx364_0⟩ := Kd.at_int HR0.out x7_1 p364 q364
      cases e364
      replace p364 := eq_true p364
      replace q364 := eq_true q364
      go_wp2
      go_ret3
      exact ⟨by first | rfl | (simp; done) | (simp [*]; done), by repeat (first | exact Drawn0.refl _ | apply Drawn0.step)⟩
     ·rw [if_neg c4] at H
      have c4b0 : decide (127 < (rd l0 x7_1)) = false := decide_eq_false c4
      clear c4
      have HC5 := Aside0.mk H
      clear H
      have p364 : 0 ≤ (x7_1 : Int) := of_decide_eq_true (by first | (with_reducible assumption) | assumption)
      have q364 : x7_1 < (l0.length : Int) := of_decide_eq_true (by first | (with_reducible assumption) | assumption)
      obtain ⟨ad364, e364, hx364_0⟩ := Kd.at_int HR0.out x7_1 p364 q364
      cases e364
      replace p364 := eq_true p364
      replace q364 := eq_true q364
      have p365 : 0 ≤ (x7_1 : Int) := of_decide_eq_true (by first | (with_reducible assumption) | assumption)
      have q365 : x7_1 < (l0.length : Int) := of_decide_eq_true (by first | (with_reducible assumption) | assumption)
      obtain ⟨ad365, e365, hx365_0⟩ := Kd.at_int HR0.out x7_1 p365 q365
      obtain rfl : ad364 = ad365 := (by injection e365)
      replace p365 := eq_true p365
      replace q365 := eq_true q365
      have p366 : 0 ≤ (x7_1 : Int) := of_decide_eq_true (by first | (with_reducible assumption) | assumption)
      have q366 : x7_1 < (l0.length : Int) := of_decide_eq_true (by first | (with_reducible assumption) | assumption)
      obtain ⟨ad366, e366, hx366_0⟩ := Kd.at_int HR0.out x7_1 p366 q366
      obtain rfl : ad364 = ad366 := (by injection e366)
      replace p366 := eq_true p366
      replace q366 := eq_true q366
      go_upto_region 10 with (fail)
      go_cut [41] (fun v41 wc => ∃ (kq : Nat) (x41_4 : Bool), v41 = .bool x41_4 ∧ Aside0 (paybookref05_Unpack.j1 kq l0 x5_1 x6_1 x7_1 (IntKind.u64.wrap (Int.tmod (rd l0 x7_1) 64)) (decide ((rd l0 x7_1) < 64)) x41_4 = some (r1, r2, r3)) ∧ Aside0 (kq ≤ k1) ∧ Drawn0 w wc)
      case first =>
       have H := HC5.out
       clear HC5
       by_cases c6 : x7_1 = 10
       ·rw [if_pos c6] at H
        have c6b0 : (x7_1 == 10) = true := beq_iff_eq.mpr c6
        have c6b1 : (x7_1 != 10) = false := bne_eq_false_iff_eq.mpr c6
        clear c6
        (first | (generalize hg_ : (x7_1 == 10) = bg_ at *; subst c6b0; have c6b0 := hg_; clear hg_) | rw [c6b0] | (simp only [i64_w, i32_w]; rw [c6b0]) | skip)
        by_cases c7 : (IntKind.u64.wrap (Int.tmod (rd l0 x7_1) 64)) ≥ 16
        ·rw [if_pos c7] at H
         have c7b0 : decide (16 ≤ (IntKind.u64.wrap (Int.tmod (rd l0 x7_1) 64))) = true := decide_eq_true c7
         clear c7
         have H' := Aside0.mk H
         clear H
         go_wp2
         go_meet
         case rel => exact ⟨_, (true), (by first | rfl | (simp; done) | (simp [*]; done)), H', ⟨by have := HK1.out; first | omega | exact Nat.le_refl _⟩, by repeat (first | exact Drawn0.refl _ | apply Drawn0.step)⟩
        ·rw [if_neg c7] at H
         have c7b0 : decide (16 ≤ (IntKind.u64.wrap (Int.tmod (rd l0 x7_1) 64))) = false := decide_eq_false c7
         clear c7
         have H' := Aside0.mk H
         clear H
         go_wp2
         go_meet
         case rel => exact ⟨_, (!(decide ((rd l0 x7_1) < 64))), (by first | rfl | (simp; done) | (simp [*]; done)), H', ⟨by have := HK1.out; first | omega | exact Nat.le_refl _⟩, by repeat (first | exact Drawn0.refl _ | apply Drawn0.step)⟩
       ·rw [if_neg c6] at H
        have c6b0 : (x7_1 == 10) = false := beq_eq_false_iff_ne.mpr c6
        have c6b1 : (x7_1 != 10) = true := bne_iff_ne.mpr c6
        (first | (generalize hg_ : (x7_1 == 10) = bg_ at *; subst c6b0; have c6b0 := hg_; clear hg_) | rw [c6b0] | (simp only [i64_w, i32_w]; rw [c6b0]) | skip)
        have H' := Aside0.mk H
        clear H
        go_wp2
        go_meet
        case rel => exact ⟨_, (false), (by first | rfl | (simp; done) | (simp [*]; done)), H', ⟨by have := HK1.out; first | omega | exact Nat.le_refl _⟩, by repeat (first | exact Drawn0.refl _ | apply Drawn0.step)⟩
      case rest =>
       clear HC5
       try clear c2
       try clear c2b0
       try clear p2
       try clear c3
       try clear c3b0
       try clear p3
       try clear q3
       try clear hx3
       try clear c4
       try clear c4b0
       try clear c6
       try clear c6b0
       try clear c6b1
       try clear c7
       try clear c7b0
       try clear hx364_0
       try clear hx365_0
       try clear hx366_0
       try clear p364
       try clear p365
       try clear p366
       try clear q364
       try clear q365
       try clear q366
       obtain ⟨kq, x41_4, rfl, HA, HJ4, ⟨mc4, rfl⟩⟩ := hcut
       cases kq with
       | zero => exact absurd HA.out (by simp [paybookref05_Unpack.j1])
       | succ kj4 =>
        have H := HA.out
        clear HA
        simp only [paybookref05_Unpack.j1] at H
        by_cases c8 : x41_4 = true
        ·subst c8
         have H1 : (some (0, 0, 4)) = some (r1, r2, r3) := by rw [if_pos rfl] at H; try exact H
         clear H
         have H := H1
         clear H1
         simp only [Option.some.injEq, Prod.mk.injEq] at H
         obtain ⟨rfl, rfl, rfl⟩ := H
         go_wp2
         go_ret3
         exact ⟨by first | rfl | (simp; done) | (simp [*]; done), by repeat (first | exact Drawn0.refl _ | apply Drawn0.step)⟩
        ·replace c8 := Bool.eq_false_iff.mpr c8
         subst c8
         have H1 : (if (decide ((rd l0 x7_1) < 64)) = true then (if (IntKind.u64.wrap (Int.tmod (rd l0 x7_1) 64)) = 0 then (paybookref05_Unpack.j2 kj4 l0 x5_1 x6_1 x7_1 (IntKind.u64.wrap (Int.tmod (rd l0 x7_1) 64)) (decide ((rd l0 x7_1) < 64)) (decide (x7_1 > 0))) else (paybookref05_Unpack.j2 kj4 l0 x5_1 x6_1 x7_1 (IntKind.u64.wrap (Int.tmod (rd l0 x7_1) 64)) (decide ((rd l0 x7_1) < 64)) false)) else (paybookref05_Unpack.j2 kj4 l0 x5_1 x6_1 x7_1 (IntKind.u64.wrap (Int.tmod (rd l0 x7_1) 64)) (decide ((rd l0 x7_1) < 64)) false)) = some (r1, r2, r3) := by rw [if_neg (show ¬ (false = true) by decide)] at H; try exact H
         clear H
         have H := H1
         clear H1
         have HC9 := Aside0.mk H
         clear H
         go_upto_region 12 with (fail)
         go_cut [50] (fun v50 wc => ∃ (kq : Nat) (x50_8 : Bool), v50 = .bool x50_8 ∧ Aside0 (paybookref05_Unpack.j2 kq l0 x5_1 x6_1 x7_1 (IntKind.u64.wrap (Int.tmod (rd l0 x7_1) 64)) (decide ((rd l0 x7_1) < 64)) x50_8 = some (r1, r2, r3)) ∧ Aside0 (kq ≤ kj4) ∧ Drawn0 w wc)
         case first =>
          have H := HC9.out
          clear HC9
          by_cases c10 : (decide ((rd l0 x7_1) < 64)) = true
          ·rw [if_pos c10] at H
           have c10b0 : (decide ((rd l0 x7_1) < 64)) = true := c10
           clear c10
           (first | (generalize hg_ : (decide ((rd l0 x7_1) < 64)) = bg_ at *; subst c10b0; have c10b0 := hg_; clear hg_) | rw [c10b0] | (simp only [i64_w, i32_w]; rw [c10b0]) | skip)
           by_cases c11 : (IntKind.u64.wrap (Int.tmod (rd l0 x7_1) 64)) = 0
           ·rw [if_pos c11] at H
            have c11b0 : ((IntKind.u64.wrap (Int.tmod (rd l0 x7_1) 64)) == 0) = true := beq_iff_eq.mpr c11
            have c11b1 : ((IntKind.u64.wrap (Int.tmod (rd l0 x7_1) 64)) != 0) = false := bne_eq_false_iff_eq.mpr c11
            clear c11
            have H' := Aside0.mk H
            clear H
            go_wp2
            go_meet
            case rel => exact ⟨_, (decide (x7_1 > 0)), (by first | rfl | (simp; done) | (simp [*]; done)), H', ⟨by have := HK1.out; have := HJ4.out; first | omega | exact Nat.le_refl _⟩, by repeat (first | exact Drawn0.refl _ | apply Drawn0.step)⟩
           ·rw [if_neg c11] at H
            have c11b0 : ((IntKind.u64.wrap (Int.tmod (rd l0 x7_1) 64)) == 0) = false := beq_eq_false_iff_ne.mpr c11
            have c11b1 : ((IntKind.u64.wrap (Int.tmod (rd l0 x7_1) 64)) != 0) = true := bne_iff_ne.mpr c11
            have H' := Aside0.mk H
            clear H
            go_wp2
            go_meet
            case rel => exact ⟨_, (false), (by first | rfl | (simp; done) | (simp [*]; done)), H', ⟨by have := HK1.out; have := HJ4.out; first | omega | exact Nat.le_refl _⟩, by repeat (first | exact Drawn0.refl _ | apply Drawn0.step)⟩
          ·rw [if_neg c10] at H
           have c10b0 : (decide ((rd l0 x7_1) < 64)) = false := by simpa using c10
           clear c10
           (first | (generalize hg_ : (decide ((rd l0 x7_1) < 64)) = bg_ at *; subst c10b0; have c10b0 := hg_; clear hg_) | rw [c10b0] | (simp only [i64_w, i32_w]; rw [c10b0]) | skip)
           have H' := Aside0.mk H
           clear H
           go_wp2
           go_meet
           case rel => exact ⟨_, (false), (by first | rfl | (simp; done) | (simp [*]; done)), H', ⟨by have := HK1.out; have := HJ4.out; first | omega | exact Nat.le_refl _⟩, by repeat (first | exact Drawn0.refl _ | apply Drawn0.step)⟩
         case rest =>
          clear HC9
          try clear c1
          try clear c2
          try clear c2b0
          try clear p2
          try clear c3
          try clear c3b0
          try clear p3
          try clear q3
          try clear hx3
          try clear c4
          try clear c4b0
          try clear c6
          try clear c6b0
          try clear c6b1
          try clear c7
          try clear c7b0
          try clear c8
          try clear c10
          try clear c10b0
          try clear c11
          try clear c11b0
          try clear c11b1
          try clear hx364_0
          try clear hx365_0
          try clear hx366_0
          try clear p2
          try clear p3
          try clear p364
          try clear p365
          try clear p366
          try clear q3
          try clear q364
          try clear q365
          try clear q366
          obtain ⟨kq, x50_8, rfl, HA, HJ8, ⟨mc8, rfl⟩⟩ := hcut
          cases kq with
          | zero => exact absurd HA.out (by simp [paybookref05_Unpack.j2])
          | succ kj8 =>
           have H := HA.out
           clear HA
           simp only [paybookref05_Unpack.j2] at H
           by_cases c12 : x50_8 = true
           ·subst c12
            have H1 : (some (0, 0, 4)) = some (r1, r2, r3) := by rw [if_pos rfl] at H; try exact H
            clear H
            have H := H1
            clear H1
            simp only [Option.some.injEq, Prod.mk.injEq] at H
            obtain ⟨rfl, rfl, rfl⟩ := H
            go_wp2
            go_ret3
            exact ⟨by first | rfl | (simp; done) | (simp [*]; done), by repeat (first | exact Drawn0.refl _ | apply Drawn0.step)⟩
           ·replace c12 := Bool.eq_false_iff.mpr c12
            subst c12
            have H1 : (if (decide ((rd l0 x7_1) < 64)) = true then (if (Int.tmod (IntKind.u64.wrap (x5_1 + (IntKind.u64.wrap ((IntKind.u64.wrap (Int.tmod (rd l0 x7_1) 64)) * x6_1)))) 2) = 1 then (some (wrap64 ((wrap64 (-(wrap64 (IntKind.u64.wrap (Int.tdiv (IntKind.u64.wrap (x5_1 + (IntKind.u64.wrap ((IntKind.u64.wrap (Int.tmod (rd l0 x7_1) 64)) * x6_1)))) 2))))) - 1), wrap64 (x7_1 + 1), 0)) else (some (wrap64 (IntKind.u64.wrap (Int.tdiv (IntKind.u64.wrap (x5_1 + (IntKind.u64.wrap ((IntKind.u64.wrap (Int.tmod (rd l0 x7_1) 64)) * x6_1)))) 2)), wrap64 (x7_1 + 1), 0))) else (paybookref05_Unpack.l0 kj8 l0 (IntKind.u64.wrap (x5_1 + (IntKind.u64.wrap ((IntKind.u64.wrap (Int.tmod (rd l0 x7_1) 64)) * x6_1)))) (IntKind.u64.wrap (x6_1 * 64)) (wrap64 (x7_1 + 1)))) = some (r1, r2, r3) := by rw [if_neg (show ¬ (false = true) by decide)] at H; try exact H
            clear H
            have H := H1
            clear H1
            by_cases c13 : (decide ((rd l0 x7_1) < 64)) = true
            ·rw [if_pos c13] at H
             have c13b0 : (decide ((rd l0 x7_1) < 64)) = true := c13
             clear c13
             (try rw [c13b0])
             by_cases c14 : (Int.tmod (IntKind.u64.wrap (x5_1 + (IntKind.u64.wrap ((IntKind.u64.wrap (Int.tmod (rd l0 x7_1) 64)) * x6_1)))) 2) = 1
             ·rw [if_pos c14] at H
              have c14b0 : ((Int.tmod (IntKind.u64.wrap (x5_1 + (IntKind.u64.wrap ((IntKind.u64.wrap (Int.tmod (rd l0 x7_1) 64)) * x6_1)))) 2) == 1) = true := beq_iff_eq.mpr c14
              have c14b1 : ((Int.tmod (IntKind.u64.wrap (x5_1 + (IntKind.u64.wrap ((IntKind.u64.wrap (Int.tmod (rd l0 x7_1) 64)) * x6_1)))) 2) != 1) = false := bne_eq_false_iff_eq.mpr c14
              clear c14
              simp only [Option.some.injEq, Prod.mk.injEq] at H
              obtain ⟨rfl, rfl, rfl⟩ := H
              go_wp2
              go_ret3
              exact ⟨by first | rfl | (simp; done) | (simp [*]; done), by repeat (first | exact Drawn0.refl _ | apply Drawn0.step)⟩
             ·rw [if_neg c14] at H
              have c14b0 : ((Int.tmod (IntKind.u64.wrap (x5_1 + (IntKind.u64.wrap ((IntKind.u64.wrap (Int.tmod (rd l0 x7_1) 64)) * x6_1)))) 2) == 1) = false := beq_eq_false_iff_ne.mpr c14
              have c14b1 : ((Int.tmod (IntKind.u64.wrap (x5_1 + (IntKind.u64.wrap ((IntKind.u64.wrap (Int.tmod (rd l0 x7_1) 64)) * x6_1)))) 2) != 1) = true := bne_iff_ne.mpr c14
              simp only [Option.some.injEq, Prod.mk.injEq] at H
              obtain ⟨rfl, rfl, rfl⟩ := H
              go_wp2
              go_ret3
              exact ⟨by first | rfl | (simp; done) | (simp [*]; done), by repeat (first | exact Drawn0.refl _ | apply Drawn0.step)⟩
            ·rw [if_neg c13] at H
             have c13b0 : (decide ((rd l0 x7_1) < 64)) = false := by simpa using c13
             clear c13
             (try rw [c13b0])
             have H' := Aside0.mk H
             clear H
             go_wp2
             go_roundg kj8
             case measure => have := HK1.out; have := HJ4.out; have := HJ8.out; omega
             case rel => exact ⟨(IntKind.u64.wrap (x5_1 + (IntKind.u64.wrap ((IntKind.u64.wrap (Int.tmod (rd l0 x7_1) 64)) * x6_1)))), (IntKind.u64.wrap (x6_1 * 64)), (wrap64 (x7_1 + 1)), (by first | rfl | (simp; done) | (simp [*]; done)), (by first | rfl | (simp; done) | (simp [*]; done)), (by first | rfl | (simp; done) | (simp [*]; done)), H', ⟨by have := HK1.out; have := HJ4.out; have := HJ8.out; omega⟩, by repeat (first | exact Drawn0.refl _ | apply Drawn0.step)⟩
    ·rw [if_neg c3] at H
     exact absurd H (by simp)
   ·rw [if_neg c2] at H
    have c2b0 : decide (x7_1 < (l0.length : Int)) = false := decide_eq_false c2
    clear c2
    simp only [Option.some.injEq, Prod.mk.injEq] at H
    obtain ⟨rfl, rfl, rfl⟩ := H
    go_wp2
    go_ret3
    exact ⟨by first | rfl | (simp; done) | (simp [*]; done), by repeat (first | exact Drawn0.refl _ | apply Drawn0.step)⟩

end Go.Proofs.Ytinmndkhipfccaa.PA
