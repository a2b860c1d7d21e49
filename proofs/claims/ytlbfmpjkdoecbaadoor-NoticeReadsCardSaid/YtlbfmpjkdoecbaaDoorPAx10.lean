-- printed by this workplace: wip/patchprint.py over the kit's print
import Derived.Test.YtlbfmpjkdoecbaaDoorPAx0
namespace Go.Proofs.YtlbfmpjkdoecbaaDoor.PA
open Go.RowKit Go.Proofs.YtlbfmpjkdoecbaaDoorW.PrintWords Go.Proofs.YtlbfmpjkdoecbaaDoorW.PrintLast Go.Proofs.YtlbfmpjkdoecbaaDoorW.PrintMore
attribute [local go_sem] max2_int min2_int max_two min_two max_three min_three max_four min_four   -- for this text's walks alone
set_option linter.unusedVariables false
set_option linter.unusedSimpArgs false

/-! ### seal_read: function 30 -/
def seal_read.l0 : Nat → Int → List Int → Int → Int → Option (Int)
 | 0, _, _, _, _ => none
 | k + 1, x3, x7, x8, x9 => if x9 < x8 then (if 0 ≤ x9 then (if x9 < (x7.length : Int) then (seal_read.l0 k (Go.bits .or .u32 ((x3 * 256) % 4294967296) ((rd x7 x9) % 4294967296)) x7 x8 (wrap64 (x9 + 1))) else (none)) else (none)) else (some x3)
def seal_read.f (k : Nat) (l0 : List Int) : Option (Int) := if 4 ≤ (l0.length : Int) then (seal_read.l0 k 0 (l0.take 4) ((l0.take 4).length : Int) 0) else (none)
theorem seal_read.mono_l : ∀ k, (∀ y0 y1 y2 y3, LeO (seal_read.l0 k y0 y1 y2 y3) (seal_read.l0 (k + 1) y0 y1 y2 y3))
 | 0 => fun _ _ _ _ r h => by simp [seal_read.l0] at h
 | k + 1 => by
  have ih0 := seal_read.mono_l k
  ·intro y0 y1 y2 y3
   unfold seal_read.l0
   repeat' first
   | (with_reducible exact ih0 _ _ _ _)
   | (with_reducible exact LeO.refl _)
   | (with_reducible exact LeO.none _)
   | (with_reducible refine LeO.ite ?_ ?_)
   | (with_reducible refine LeO.bind ?_ (fun _ => ?_))
   | exact ih0 _ _ _ _
   | exact LeO.none _
   | refine LeO.ite ?_ ?_
   | refine LeO.bind ?_ (fun _ => ?_)
theorem seal_read.mono : ∀ a0 k, LeO (seal_read.f k a0) (seal_read.f (k + 1) a0) := by
 intro a0 k
 have ih0 := seal_read.mono_l k
 unfold seal_read.f
 repeat' first
   | (with_reducible exact ih0 _ _ _ _)
   | (with_reducible exact LeO.refl _)
   | (with_reducible exact LeO.none _)
   | (with_reducible refine LeO.ite ?_ ?_)
   | (with_reducible refine LeO.bind ?_ (fun _ => ?_))
   | exact ih0 _ _ _ _
   | exact LeO.none _
   | refine LeO.ite ?_ ?_
   | refine LeO.bind ?_ (fun _ => ?_)
set_option maxHeartbeats 40000000 in
set_option maxRecDepth 100000 in
theorem seal_read.calls (k : Nat) (A0 : Option Addr) (c0 : Nat) (l0 : List Int) (r : Int) (w : World) (hr0 : Kd.C (Kd.int .u8) w A0 l0.length l0) (hc0 : l0.length ≤ c0) (h : seal_read.f k l0 = some r) :
  Calls Tryd.prog 30 #[.slice A0 l0.length c0] w fun e w' => e = .returned (.int .u32 r) ∧ Drawn0 w w' := by
 have HR0 := Aside0.mk hr0
 have HC0 := Aside0.mk hc0
 clear hr0 hc0
 have H : (if 4 ≤ (l0.length : Int) then (seal_read.l0 k 0 (l0.take 4) ((l0.take 4).length : Int) 0) else (none)) = some r := h
 clear h
 by_cases c2 : 4 ≤ (l0.length : Int)
 ·rw [if_pos c2] at H
  have c2b0 := eq_true c2
  have c2b1 : decide (4 ≤ (l0.length : Int)) = true := decide_eq_true c2
  clear c2
  have H' := Aside0.mk H
  clear H
  obtain ⟨i03, hi03, _, hsz3, _⟩ := info_parts info5
  obtain ⟨hcut3, hA3, hC3⟩ := print_take_of (P := Tryd.prog) (Value.int .u8) 0 25 5 .i64 Tryd.underlying25 hi03 hsz3 A0 c0 l0 4 (by omega) (of_decide_eq_true (by first | (with_reducible assumption) | assumption)) HC0.out
  have HR182 := Aside0.mk (Kd.C_of_reads (h1 := fun _ => rfl) (hA3 _ (Kd.reads_of_C HR0.out)))
  have HC182 := Aside0.mk hC3
  clear hA3 hC3 hi03 hsz3
  go_enter Tryd.func30, Tryd.ntmps30
  go_wp2
  go_loopg [3, 9] k (fun kq v3 v9 w' => ∃ (x3_1 : Int) (x9_1 : Int), v3 = .int .u32 x3_1 ∧ v9 = .int .i64 x9_1 ∧ Aside0 (seal_read.l0 kq x3_1 (l0.take 4) ((l0.take 4).length : Int) x9_1 = some r) ∧ Aside0 (kq ≤ k) ∧ Drawn0 w w')
  case atStart => exact ⟨(0), (0), (by first | rfl | (simp; done) | (simp [*]; done)), (by first | rfl | (simp; done) | (simp [*]; done)), H', ⟨Nat.le_refl _⟩, by repeat (first | exact Drawn0.refl _ | apply Drawn0.step)⟩
  case round =>
   clear H'
   try clear c2
   try clear c2b0
   try clear c2b1
   try clear p2
   try clear c3
   obtain ⟨x3_1, x9_1, rfl, rfl, HA, HK1, ⟨m1, rfl⟩⟩ := hrel
   cases gk with
   | zero => exact absurd HA.out (by simp [seal_read.l0])
   | succ k1 =>
    have H := HA.out
    clear HA
    simp only [seal_read.l0] at H
    by_cases c4 : x9_1 < ((l0.take 4).length : Int)
    ·rw [if_pos c4] at H
     have c4b0 : decide (x9_1 < ((l0.take 4).length : Int)) = true := decide_eq_true c4
     clear c4
     (try (have c4b7 := c4b0; simp only [List.length_take, List.length_drop] at c4b7))
     by_cases c5 : 0 ≤ x9_1
     ·rw [if_pos c5] at H
      have c5b0 : decide (0 ≤ x9_1) = true := decide_eq_true c5
      clear c5
      by_cases c6 : x9_1 < ((l0.take 4).length : Int)
      ·rw [if_pos c6] at H
       have c6b0 : decide (x9_1 < ((l0.take 4).length : Int)) = true := decide_eq_true c6
       clear c6
       (try (have c6b7 := c6b0; simp only [List.length_take, List.length_drop] at c6b7))
       have H' := Aside0.mk H
       clear H
       have p183 : 0 ≤ (x9_1 : Int) := of_decide_eq_true (by first | (with_reducible assumption) | assumption)
       have q183 : x9_1 < ((l0.take 4).length : Int) := of_decide_eq_true (by first | (with_reducible assumption) | assumption)
       obtain ⟨ad183, e183, hx183_0⟩ := Kd.at_int HR182.out x9_1 p183 q183
       cases e183
       replace p183 := eq_true p183
       replace q183 := eq_true q183
       (try (have qt183 := q183; simp only [List.length_take, List.length_drop] at qt183))
       go_wp2
       go_roundg k1
       case measure => have := HK1.out; omega
       case rel => exact ⟨(Go.bits .or .u32 ((x3_1 * 256) % 4294967296) ((rd (l0.take 4) x9_1) % 4294967296)), (wrap64 (x9_1 + 1)), (by first | rfl | (simp; done) | (simp [*]; done)), (by first | rfl | (simp; done) | (simp [*]; done)), H', ⟨by have := HK1.out; omega⟩, by repeat (first | exact Drawn0.refl _ | apply Drawn0.step)⟩
      ·rw [if_neg c6] at H
       exact absurd H (by simp)
     ·rw [if_neg c5] at H
      exact absurd H (by simp)
    ·rw [if_neg c4] at H
     have c4b0 : decide (x9_1 < ((l0.take 4).length : Int)) = false := decide_eq_false c4
     clear c4
     (try (have c4b7 := c4b0; simp only [List.length_take, List.length_drop] at c4b7))
     obtain rfl := Option.some.inj H
     go_wp2
     go_ret
     exact ⟨by first | rfl | (simp; done) | (simp [*]; done), by repeat (first | exact Drawn0.refl _ | apply Drawn0.step)⟩
 ·rw [if_neg c2] at H
  exact absurd H (by simp)

end Go.Proofs.YtlbfmpjkdoecbaaDoor.PA
