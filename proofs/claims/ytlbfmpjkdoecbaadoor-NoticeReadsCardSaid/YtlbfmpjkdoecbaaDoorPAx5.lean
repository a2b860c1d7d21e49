-- printed by this workplace: wip/patchprint.py over the kit's print
import Derived.Test.YtlbfmpjkdoecbaaDoorPAx0
namespace Go.Proofs.YtlbfmpjkdoecbaaDoor.PA
open Go.RowKit Go.Proofs.YtlbfmpjkdoecbaaDoorW.PrintWords Go.Proofs.YtlbfmpjkdoecbaaDoorW.PrintLast Go.Proofs.YtlbfmpjkdoecbaaDoorW.PrintMore
attribute [local go_sem] max2_int min2_int max_two min_two max_three min_three max_four min_four   -- for this text's walks alone
set_option linter.unusedVariables false
set_option linter.unusedSimpArgs false

/-! ### seal_Sum: function 29 -/
def seal_Sum.l0 : Nat → Int → List Int → Int → Int → Option (Int)
 | 0, _, _, _, _ => none
 | k + 1, x3, x6, x7, x8 => if x8 < x7 then (if 0 ≤ x8 then (if x8 < (x6.length : Int) then (if 0 ≤ (Go.bits .and .u32 (Go.bits .xor .u32 x3 ((rd x6 x8) % 4294967296)) 15) then (if (Go.bits .and .u32 (Go.bits .xor .u32 x3 ((rd x6 x8) % 4294967296)) 15) < 16 then (if 0 ≤ (Go.bits .and .u32 (Go.bits .xor .u32 (Go.bits .xor .u32 (x3 / 16) (rd gl0 (Go.bits .and .u32 (Go.bits .xor .u32 x3 ((rd x6 x8) % 4294967296)) 15))) (((rd x6 x8) / 16) % 4294967296)) 15) then (if (Go.bits .and .u32 (Go.bits .xor .u32 (Go.bits .xor .u32 (x3 / 16) (rd gl0 (Go.bits .and .u32 (Go.bits .xor .u32 x3 ((rd x6 x8) % 4294967296)) 15))) (((rd x6 x8) / 16) % 4294967296)) 15) < 16 then (seal_Sum.l0 k (Go.bits .xor .u32 ((Go.bits .xor .u32 (x3 / 16) (rd gl0 (Go.bits .and .u32 (Go.bits .xor .u32 x3 ((rd x6 x8) % 4294967296)) 15))) / 16) (rd gl0 (Go.bits .and .u32 (Go.bits .xor .u32 (Go.bits .xor .u32 (x3 / 16) (rd gl0 (Go.bits .and .u32 (Go.bits .xor .u32 x3 ((rd x6 x8) % 4294967296)) 15))) (((rd x6 x8) / 16) % 4294967296)) 15))) x6 x7 (wrap64 (x8 + 1))) else (none)) else (none)) else (none)) else (none)) else (none)) else (none)) else (some (Go.bits .xor .u32 4294967295 x3))
def seal_Sum.f (k : Nat) (l0 : List Int) : Option (Int) := seal_Sum.l0 k 4294967295 l0 (l0.length : Int) 0
theorem seal_Sum.mono_l : ∀ k, (∀ y0 y1 y2 y3, LeO (seal_Sum.l0 k y0 y1 y2 y3) (seal_Sum.l0 (k + 1) y0 y1 y2 y3))
 | 0 => fun _ _ _ _ r h => by simp [seal_Sum.l0] at h
 | k + 1 => by
  have ih0 := seal_Sum.mono_l k
  ·intro y0 y1 y2 y3
   unfold seal_Sum.l0
   repeat' first
   | (with_reducible exact ih0 _ _ _ _)
   | (with_reducible exact LeO.refl _)
   | (with_reducible exact LeO.none _)
   | (with_reducible refine LeO.ite ?_ ?_)
   | (with_reducible refine LeO.bind ?_ (fun _ => ?_))
   | exact ih0 _ _ _ _
   | exact LeO.none _
   | refine LeO.ite ?_ ?_
   | refine LeO.bind ?_ (fun _ => ?_)
theorem seal_Sum.mono : ∀ a0 k, LeO (seal_Sum.f k a0) (seal_Sum.f (k + 1) a0) := by
 intro a0 k
 have ih0 := seal_Sum.mono_l k
 unfold seal_Sum.f
 repeat' first
   | (with_reducible exact ih0 _ _ _ _)
   | (with_reducible exact LeO.refl _)
   | (with_reducible exact LeO.none _)
   | (with_reducible refine LeO.ite ?_ ?_)
   | (with_reducible refine LeO.bind ?_ (fun _ => ?_))
   | exact ih0 _ _ _ _
   | exact LeO.none _
   | refine LeO.ite ?_ ?_
   | refine LeO.bind ?_ (fun _ => ?_)
set_option maxHeartbeats 40000000 in
set_option maxRecDepth 100000 in
theorem seal_Sum.calls (k : Nat) (A0 : Option Addr) (c0 : Nat) (l0 : List Int) (r : Int) (w : World) (hr0 : Kd.C (Kd.int .u8) w A0 l0.length l0) (hc0 : l0.length ≤ c0) (hrG0 : Kd.C (Kd.int .u32) w (some ⟨0, 0, none⟩) 16 gl0) (h : seal_Sum.f k l0 = some r) :
  Calls Tryd.prog 29 #[.slice A0 l0.length c0] w fun e w' => e = .returned (.int .u32 r) ∧ Drawn0 w w' := by
 have HR0 := Aside0.mk hr0
 have HC0 := Aside0.mk hc0
 clear hr0 hc0
 have HRG0 := Aside0.mk hrG0
 clear hrG0
 have H : (seal_Sum.l0 k 4294967295 l0 (l0.length : Int) 0) = some r := h
 clear h
 have H' := Aside0.mk H
 clear H
 go_enter Tryd.func29, Tryd.ntmps29
 go_wp2
 go_loopg [3, 8] k (fun kq v3 v8 w' => ∃ (x3_1 : Int) (x8_1 : Int), v3 = .int .u32 x3_1 ∧ v8 = .int .i64 x8_1 ∧ Aside0 (seal_Sum.l0 kq x3_1 l0 (l0.length : Int) x8_1 = some r) ∧ Aside0 (kq ≤ k) ∧ Drawn0 w w')
 case atStart => exact ⟨(4294967295), (0), (by first | rfl | (simp; done) | (simp [*]; done)), (by first | rfl | (simp; done) | (simp [*]; done)), H', ⟨Nat.le_refl _⟩, by repeat (first | exact Drawn0.refl _ | apply Drawn0.step)⟩
 case round =>
  clear H'
  obtain ⟨x3_1, x8_1, rfl, rfl, HA, HK1, ⟨m1, rfl⟩⟩ := hrel
  cases gk with
  | zero => exact absurd HA.out (by simp [seal_Sum.l0])
  | succ k1 =>
   have H := HA.out
   clear HA
   simp only [seal_Sum.l0] at H
   by_cases c2 : x8_1 < (l0.length : Int)
   ·rw [if_pos c2] at H
    have c2b0 : decide (x8_1 < (l0.length : Int)) = true := decide_eq_true c2
    clear c2
    by_cases c3 : 0 ≤ x8_1
    ·rw [if_pos c3] at H
     have c3b0 : decide (0 ≤ x8_1) = true := decide_eq_true c3
     clear c3
     by_cases c4 : x8_1 < (l0.length : Int)
     ·rw [if_pos c4] at H
      have c4b0 : decide (x8_1 < (l0.length : Int)) = true := decide_eq_true c4
      clear c4
      obtain ⟨ji5, hji5⟩ : ∃ j_ : Int, (Go.bits .and .u32 (Go.bits .xor .u32 x3_1 ((rd l0 x8_1) % 4294967296)) 15) = j_ := ⟨_, rfl⟩
      replace H : (if 0 ≤ (ji5) then (if (ji5) < 16 then (if 0 ≤ (Go.bits .and .u32 (Go.bits .xor .u32 (Go.bits .xor .u32 (x3_1 / 16) (rd gl0 (ji5))) (((rd l0 x8_1) / 16) % 4294967296)) 15) then (if (Go.bits .and .u32 (Go.bits .xor .u32 (Go.bits .xor .u32 (x3_1 / 16) (rd gl0 (ji5))) (((rd l0 x8_1) / 16) % 4294967296)) 15) < 16 then (seal_Sum.l0 k1 (Go.bits .xor .u32 ((Go.bits .xor .u32 (x3_1 / 16) (rd gl0 (ji5))) / 16) (rd gl0 (Go.bits .and .u32 (Go.bits .xor .u32 (Go.bits .xor .u32 (x3_1 / 16) (rd gl0 (ji5))) (((rd l0 x8_1) / 16) % 4294967296)) 15))) l0 (l0.length : Int) (wrap64 (x8_1 + 1))) else (none)) else (none)) else (none)) else (none)) = some r := by first | (rw [hji5] at H; try exact H) | (simp only [hji5] at H ⊢; exact H)
      by_cases c6 : 0 ≤ (ji5)
      ·rw [if_pos c6] at H
       have c6b0 : decide (0 ≤ (ji5)) = true := decide_eq_true c6
       clear c6
       by_cases c7 : (ji5) < 16
       ·rw [if_pos c7] at H
        have c7b0 : decide ((ji5) < 16) = true := decide_eq_true c7
        clear c7
        obtain ⟨ji8, hji8⟩ : ∃ j_ : Int, (Go.bits .and .u32 (Go.bits .xor .u32 (Go.bits .xor .u32 (x3_1 / 16) (rd gl0 (ji5))) (((rd l0 x8_1) / 16) % 4294967296)) 15) = j_ := ⟨_, rfl⟩
        replace H : (if 0 ≤ (ji8) then (if (ji8) < 16 then (seal_Sum.l0 k1 (Go.bits .xor .u32 ((Go.bits .xor .u32 (x3_1 / 16) (rd gl0 (ji5))) / 16) (rd gl0 (ji8))) l0 (l0.length : Int) (wrap64 (x8_1 + 1))) else (none)) else (none)) = some r := by first | (rw [hji8] at H; try exact H) | (simp only [hji8] at H ⊢; exact H)
        by_cases c9 : 0 ≤ (ji8)
        ·rw [if_pos c9] at H
         have c9b0 : decide (0 ≤ (ji8)) = true := decide_eq_true c9
         clear c9
         by_cases c10 : (ji8) < 16
         ·rw [if_pos c10] at H
          have c10b0 : decide ((ji8) < 16) = true := decide_eq_true c10
          clear c10
          have H' := Aside0.mk H
          clear H
          have p125 : 0 ≤ (x8_1 : Int) := of_decide_eq_true (by first | (with_reducible assumption) | assumption)
          have q125 : x8_1 < (l0.length : Int) := of_decide_eq_true (by first | (with_reducible assumption) | assumption)
          obtain ⟨ad125, e125, hx125_0⟩ := Kd.at_int HR0.out x8_1 p125 q125
          cases e125
          replace p125 := eq_true p125
          replace q125 := eq_true q125
          have p126 : 0 ≤ ((ji5) : Int) := of_decide_eq_true (by first | (with_reducible assumption) | assumption)
          have q126 : (ji5) < (gl0.length : Int) := of_decide_eq_true (by first | (with_reducible assumption) | assumption)
          have ql126 : (((ji5) : Int) < (16 : Int)) = True := eq_true (of_decide_eq_true (by first | (with_reducible assumption) | assumption))
          obtain ⟨ad126, e126, hx126_0⟩ := Kd.at_int HRG0.out (ji5) p126 q126
          obtain rfl : (⟨0, 0, none⟩ : Addr) = ad126 := (by injection e126)
          (first | simp only [add_plain] at hx126_0 | simp only [add_at] at hx126_0 | simp only [Addr.add, Nat.zero_add] at hx126_0 | skip)
          replace p126 := eq_true p126
          replace q126 := eq_true q126
          have p127 : 0 ≤ ((ji8) : Int) := of_decide_eq_true (by first | (with_reducible assumption) | assumption)
          have q127 : (ji8) < (gl0.length : Int) := of_decide_eq_true (by first | (with_reducible assumption) | assumption)
          have ql127 : (((ji8) : Int) < (16 : Int)) = True := eq_true (of_decide_eq_true (by first | (with_reducible assumption) | assumption))
          obtain ⟨ad127, e127, hx127_0⟩ := Kd.at_int HRG0.out (ji8) p127 q127
          obtain rfl : (⟨0, 0, none⟩ : Addr) = ad127 := (by injection e127)
          (first | simp only [add_plain] at hx127_0 | simp only [add_at] at hx127_0 | simp only [Addr.add, Nat.zero_add] at hx127_0 | skip)
          replace p127 := eq_true p127
          replace q127 := eq_true q127
          go_wp2
          go_roundg k1
          case measure => have := HK1.out; omega
          case rel => exact ⟨(Go.bits .xor .u32 ((Go.bits .xor .u32 (x3_1 / 16) (rd gl0 (ji5))) / 16) (rd gl0 (ji8))), (wrap64 (x8_1 + 1)), (by first | rfl | (simp; done) | (simp only [← hji5, ← hji8] <;> (first | rfl | simp)) | (simp [*]; done)), (by first | rfl | (simp; done) | (simp [*]; done)), H', ⟨by have := HK1.out; omega⟩, by repeat (first | exact Drawn0.refl _ | apply Drawn0.step)⟩
         ·rw [if_neg c10] at H
          exact absurd H (by simp)
        ·rw [if_neg c9] at H
         exact absurd H (by simp)
       ·rw [if_neg c7] at H
        exact absurd H (by simp)
      ·rw [if_neg c6] at H
       exact absurd H (by simp)
     ·rw [if_neg c4] at H
      exact absurd H (by simp)
    ·rw [if_neg c3] at H
     exact absurd H (by simp)
   ·rw [if_neg c2] at H
    have c2b0 : decide (x8_1 < (l0.length : Int)) = false := decide_eq_false c2
    clear c2
    obtain rfl := Option.some.inj H
    go_wp2
    go_ret
    exact ⟨by first | rfl | (simp; done) | (simp [*]; done), by repeat (first | exact Drawn0.refl _ | apply Drawn0.step)⟩

end Go.Proofs.YtlbfmpjkdoecbaaDoor.PA
