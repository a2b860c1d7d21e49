-- printed by this workplace: wip/patchprint.py over the kit's print
import Derived.Test.YtlbfmpjkdoecbaaDoorPAx0
import Derived.Test.YtlbfmpjkdoecbaaDoorPAx5
import Derived.Test.YtlbfmpjkdoecbaaDoorPAx10
namespace Go.Proofs.YtlbfmpjkdoecbaaDoor.PA
open Go.RowKit Go.Proofs.YtlbfmpjkdoecbaaDoorW.PrintWords Go.Proofs.YtlbfmpjkdoecbaaDoorW.PrintLast Go.Proofs.YtlbfmpjkdoecbaaDoorW.PrintMore
attribute [local go_sem] max2_int min2_int max_two min_two max_three min_three max_four min_four   -- for this text's walks alone
set_option linter.unusedVariables false
set_option linter.unusedSimpArgs false

/-! ### seal_Open: function 17 -/
def seal_Open.f (k : Nat) (a0 : Int) (a1 : Int) (l2 : List Int) : Option (List Int × Int × Int) := if (l2.length : Int) < 16 then (some (([] : List Int), 0, 5)) else ((seal_read.f k l2).bind fun t184 => (if (wrap64 (t184)) > 1048576 then (some (([] : List Int), 0, 6)) else (if (l2.length : Int) < (wrap64 (16 + (wrap64 (t184)))) then (some (([] : List Int), 0, 5)) else (if 12 ≤ (l2.length : Int) then ((seal_read.f k (l2.drop 12)).bind fun t186 => (if ([] : List Int).length + (l2.take 12).length < 140737488355328 then ((some (([] : List Int) ++ (l2.take 12) : List Int)).bind fun y188 => (if 16 ≤ (wrap64 (16 + (wrap64 (t184)))) then (if (wrap64 (16 + (wrap64 (t184)))) ≤ (l2.length : Int) then (if y188.length + ((l2.take ((wrap64 (16 + (wrap64 (t184)))) : Int).toNat).drop 16).length < 140737488355328 then ((seal_Sum.f k (y188 ++ ((l2.take ((wrap64 (16 + (wrap64 (t184)))) : Int).toNat).drop 16))).bind fun t195 => (if t186 = t195 then (if 4 ≤ (l2.length : Int) then ((seal_read.f k (l2.drop 4)).bind fun t197 => (if t197 = a0 then (if 8 ≤ (l2.length : Int) then ((seal_read.f k (l2.drop 8)).bind fun t199 => (if t199 = a1 then (if ([] : List Int).length + ((l2.take ((wrap64 (16 + (wrap64 (t184)))) : Int).toNat).drop 16).length < 140737488355328 then (some ((([] : List Int) ++ ((l2.take ((wrap64 (16 + (wrap64 (t184)))) : Int).toNat).drop 16)), wrap64 (16 + (wrap64 (t184))), 0)) else (none)) else (some (([] : List Int), 0, 10)))) else (none)) else (some (([] : List Int), 0, 10)))) else (none)) else (some (([] : List Int), 0, 4)))) else (none)) else (none)) else (none))) else (none))) else (none)))))
theorem seal_Open.mono : ∀ a0 a1 a2 k, LeO (seal_Open.f k a0 a1 a2) (seal_Open.f (k + 1) a0 a1 a2) := by
 intro a0 a1 a2 k
 unfold seal_Open.f
 repeat' first
   | (with_reducible exact seal_Sum.mono _ _)
   | (with_reducible exact seal_read.mono _ _)
   | (with_reducible exact LeO.refl _)
   | (with_reducible exact LeO.none _)
   | (with_reducible refine LeO.ite ?_ ?_)
   | (with_reducible refine LeO.bind ?_ (fun _ => ?_))
   | exact seal_Sum.mono _ _
   | exact seal_read.mono _ _
   | exact LeO.none _
   | refine LeO.ite ?_ ?_
   | refine LeO.bind ?_ (fun _ => ?_)
def seal_Open.T8 : Bool × List (List Nat × List Nat) := (true, [([], []), ([0], [0]), ([1], [1]), ([], []), ([3], [3]), ([4, 2], [4]), ([], []), ([], []), ([7], [7]), ([6, 8], [6, 8]), ([5, 9, 5], [5, 9]), ([10, 10], [10]), ([2, 11], [2, 11]), ([12, 11], [12])])
def seal_Open.B8 : List Nat := [0, 1, 3, 0, 8, 31, 0, 0, 128, 448, 1023, 2047, 4095, 8191]
theorem seal_Open.tab8 : rtab .any (opsOf Tryd.f17 8) = seal_Open.T8 := by kernel_rfl
theorem seal_Open.bits8 : waitsOk seal_Open.T8.2 seal_Open.B8 = true := by kernel_rfl
set_option maxHeartbeats 40000000 in
set_option maxRecDepth 100000 in
theorem seal_Open.calls (k : Nat) (a0 : Int) (a1 : Int) (A2 : Option Addr) (c2 : Nat) (l2 : List Int) (r1 : List Int) (r2 : Int) (r3 : Int) (w : World) (hr2 : Kd.C (Kd.int .u8) w A2 l2.length l2) (hc2 : l2.length ≤ c2) (hrG0 : Kd.C (Kd.int .u32) w (some ⟨0, 0, none⟩) 16 gl0) (h : seal_Open.f k a0 a1 l2 = some (r1, r2, r3)) :
  Calls Tryd.prog 17 #[.int .u32 a0, .int .u32 a1, .slice A2 l2.length c2] w fun e w' => ∃ v0_ : Value, e = .returned (.tuple #[v0_, .int .i64 r2, .int .i64 r3]) ∧ Kd.R (Kd.int .u8) 5 w' w.heap.size (fun _ => True) v0_ r1 ∧ Below w.heap.size w w' := by
 have HR2 := Aside0.mk hr2
 have HC2 := Aside0.mk hc2
 clear hr2 hc2
 have HRG0 := Aside0.mk hrG0
 clear hrG0
 have HB := Aside0.mk (Below.refl w.heap.size w)
 have H : (if (l2.length : Int) < 16 then (some (([] : List Int), 0, 5)) else ((seal_read.f k l2).bind fun t184 => (if (wrap64 (t184)) > 1048576 then (some (([] : List Int), 0, 6)) else (if (l2.length : Int) < (wrap64 (16 + (wrap64 (t184)))) then (some (([] : List Int), 0, 5)) else (if 12 ≤ (l2.length : Int) then ((seal_read.f k (l2.drop 12)).bind fun t186 => (if ([] : List Int).length + (l2.take 12).length < 140737488355328 then ((some (([] : List Int) ++ (l2.take 12) : List Int)).bind fun y188 => (if 16 ≤ (wrap64 (16 + (wrap64 (t184)))) then (if (wrap64 (16 + (wrap64 (t184)))) ≤ (l2.length : Int) then (if y188.length + ((l2.take ((wrap64 (16 + (wrap64 (t184)))) : Int).toNat).drop 16).length < 140737488355328 then ((seal_Sum.f k (y188 ++ ((l2.take ((wrap64 (16 + (wrap64 (t184)))) : Int).toNat).drop 16))).bind fun t195 => (if t186 = t195 then (if 4 ≤ (l2.length : Int) then ((seal_read.f k (l2.drop 4)).bind fun t197 => (if t197 = a0 then (if 8 ≤ (l2.length : Int) then ((seal_read.f k (l2.drop 8)).bind fun t199 => (if t199 = a1 then (if ([] : List Int).length + ((l2.take ((wrap64 (16 + (wrap64 (t184)))) : Int).toNat).drop 16).length < 140737488355328 then (some ((([] : List Int) ++ ((l2.take ((wrap64 (16 + (wrap64 (t184)))) : Int).toNat).drop 16)), wrap64 (16 + (wrap64 (t184))), 0)) else (none)) else (some (([] : List Int), 0, 10)))) else (none)) else (some (([] : List Int), 0, 10)))) else (none)) else (some (([] : List Int), 0, 4)))) else (none)) else (none)) else (none))) else (none))) else (none)))))) = some (r1, r2, r3) := h
 clear h
 by_cases c4 : (l2.length : Int) < 16
 ·rw [if_pos c4] at H
  have c4b0 : decide ((l2.length : Int) < 16) = true := decide_eq_true c4
  have c4b1 : decide (l2.length < 16) = true := decide_eq_true (by omega)
  clear c4
  simp only [Option.some.injEq, Prod.mk.injEq] at H
  obtain ⟨rfl, rfl, rfl⟩ := H
  go_enter Tryd.func17, Tryd.ntmps17
  go_wp2
  go_ret3
  exact ⟨_, by first | rfl | (simp [errW_none, errW_some] <;> rfl) | (simp [*, errW_none, errW_some] <;> rfl), by first | exact Kd.R_nil _ _ _ _ _ | exact Kd.N_nil _ _ _ _ _ | exact Kd.V_nil _ _ _ _ _ | exact Kd.Q_nil _ _ _ _ _ | exact Kd.S_nil _ _ _ _ _, by repeat (first | (with_reducible first | exact HB.out | apply kL | apply kM | apply kE) | exact HB.out)⟩
 ·rw [if_neg c4] at H
  have c4b0 : decide ((l2.length : Int) < 16) = false := decide_eq_false c4
  have c4b1 : decide (l2.length < 16) = false := decide_eq_false (by omega)
  clear c4
  replace H := Option.bind_eq_some_iff.mp H
  obtain ⟨t184, A50, H⟩ := H
  replace H : (if (wrap64 (t184)) > 1048576 then (some (([] : List Int), 0, 6)) else (if (l2.length : Int) < (wrap64 (16 + (wrap64 (t184)))) then (some (([] : List Int), 0, 5)) else (if 12 ≤ (l2.length : Int) then ((seal_read.f k (l2.drop 12)).bind fun t186 => (if ([] : List Int).length + (l2.take 12).length < 140737488355328 then ((some (([] : List Int) ++ (l2.take 12) : List Int)).bind fun y188 => (if 16 ≤ (wrap64 (16 + (wrap64 (t184)))) then (if (wrap64 (16 + (wrap64 (t184)))) ≤ (l2.length : Int) then (if y188.length + ((l2.take ((wrap64 (16 + (wrap64 (t184)))) : Int).toNat).drop 16).length < 140737488355328 then ((seal_Sum.f k (y188 ++ ((l2.take ((wrap64 (16 + (wrap64 (t184)))) : Int).toNat).drop 16))).bind fun t195 => (if t186 = t195 then (if 4 ≤ (l2.length : Int) then ((seal_read.f k (l2.drop 4)).bind fun t197 => (if t197 = a0 then (if 8 ≤ (l2.length : Int) then ((seal_read.f k (l2.drop 8)).bind fun t199 => (if t199 = a1 then (if ([] : List Int).length + ((l2.take ((wrap64 (16 + (wrap64 (t184)))) : Int).toNat).drop 16).length < 140737488355328 then (some ((([] : List Int) ++ ((l2.take ((wrap64 (16 + (wrap64 (t184)))) : Int).toNat).drop 16)), wrap64 (16 + (wrap64 (t184))), 0)) else (none)) else (some (([] : List Int), 0, 10)))) else (none)) else (some (([] : List Int), 0, 10)))) else (none)) else (some (([] : List Int), 0, 4)))) else (none)) else (none)) else (none))) else (none))) else (none)))) = some (r1, r2, r3) := H
  have A5 := Aside0.mk A50
  clear A50
  by_cases c6 : (wrap64 (t184)) > 1048576
  ·rw [if_pos c6] at H
   have c6b0 : decide (1048576 < (wrap64 (t184))) = true := decide_eq_true c6
   clear c6
   simp only [Option.some.injEq, Prod.mk.injEq] at H
   obtain ⟨rfl, rfl, rfl⟩ := H
   go_enter Tryd.func17, Tryd.ntmps17
   go_wp2_with (first | ((with_reducible refine gate_callee (f := 30) rfl ?_); refine goesL_ (some 14) rfl rfl Tryd.func30 (by kernel_rfl) rfl #[.slice A2 l2.length c2] rfl (by (try simp only [List.map_toArray, List.map_cons, List.map_nil]); first | done | rfl | (simp only [List.length_drop, List.length_take]; rfl)) ?_; (with_reducible refine (seal_read.calls k _ _ l2 t184 _ ?side1 ?side2 A5.out).mono ?_); (case side1 => repeat (first | exact HR2.out | exact (Kd.C_below HR2.out HB.out) | (with_reducible refine Kd.C_alloc ?_ _) | (with_reducible refine Kd.C_drewN ?_ _) | (with_reducible refine Kd.C_drew ?_))); (case side2 => exact HC2.out); rintro e w' ⟨rfl, ⟨nd, rfl⟩⟩; refine ⟨_, rfl, ?_⟩))
   go_ret3
   exact ⟨_, by first | rfl | (simp [errW_none, errW_some] <;> rfl) | (simp [*, errW_none, errW_some] <;> rfl), by first | exact Kd.R_nil _ _ _ _ _ | exact Kd.N_nil _ _ _ _ _ | exact Kd.V_nil _ _ _ _ _ | exact Kd.Q_nil _ _ _ _ _ | exact Kd.S_nil _ _ _ _ _, by repeat (first | (with_reducible first | exact HB.out | apply kL | apply kM | apply kE) | exact HB.out)⟩
  ·rw [if_neg c6] at H
   have c6b0 : decide (1048576 < (wrap64 (t184))) = false := decide_eq_false c6
   clear c6
   by_cases c7 : (l2.length : Int) < (wrap64 (16 + (wrap64 (t184))))
   ·rw [if_pos c7] at H
    have c7b0 : decide ((l2.length : Int) < (wrap64 (16 + (wrap64 (t184))))) = true := decide_eq_true c7
    clear c7
    simp only [Option.some.injEq, Prod.mk.injEq] at H
    obtain ⟨rfl, rfl, rfl⟩ := H
    go_enter Tryd.func17, Tryd.ntmps17
    go_wp2_with (first | ((with_reducible refine gate_callee (f := 30) rfl ?_); refine goesL_ (some 14) rfl rfl Tryd.func30 (by kernel_rfl) rfl #[.slice A2 l2.length c2] rfl (by (try simp only [List.map_toArray, List.map_cons, List.map_nil]); first | done | rfl | (simp only [List.length_drop, List.length_take]; rfl)) ?_; (with_reducible refine (seal_read.calls k _ _ l2 t184 _ ?side1 ?side2 A5.out).mono ?_); (case side1 => repeat (first | exact HR2.out | exact (Kd.C_below HR2.out HB.out) | (with_reducible refine Kd.C_alloc ?_ _) | (with_reducible refine Kd.C_drewN ?_ _) | (with_reducible refine Kd.C_drew ?_))); (case side2 => exact HC2.out); rintro e w' ⟨rfl, ⟨nd, rfl⟩⟩; refine ⟨_, rfl, ?_⟩))
    go_ret3
    exact ⟨_, by first | rfl | (simp [errW_none, errW_some] <;> rfl) | (simp [*, errW_none, errW_some] <;> rfl), by first | exact Kd.R_nil _ _ _ _ _ | exact Kd.N_nil _ _ _ _ _ | exact Kd.V_nil _ _ _ _ _ | exact Kd.Q_nil _ _ _ _ _ | exact Kd.S_nil _ _ _ _ _, by repeat (first | (with_reducible first | exact HB.out | apply kL | apply kM | apply kE) | exact HB.out)⟩
   ·rw [if_neg c7] at H
    have c7b0 : decide ((l2.length : Int) < (wrap64 (16 + (wrap64 (t184))))) = false := decide_eq_false c7
    clear c7
    by_cases c8 : 12 ≤ (l2.length : Int)
    ·rw [if_pos c8] at H
     have c8b0 := eq_true c8
     have c8b1 : decide (12 ≤ (l2.length : Int)) = true := decide_eq_true c8
     clear c8
     replace H := Option.bind_eq_some_iff.mp H
     obtain ⟨t186, A90, H⟩ := H
     replace H : (if ([] : List Int).length + (l2.take 12).length < 140737488355328 then ((some (([] : List Int) ++ (l2.take 12) : List Int)).bind fun y188 => (if 16 ≤ (wrap64 (16 + (wrap64 (t184)))) then (if (wrap64 (16 + (wrap64 (t184)))) ≤ (l2.length : Int) then (if y188.length + ((l2.take ((wrap64 (16 + (wrap64 (t184)))) : Int).toNat).drop 16).length < 140737488355328 then ((seal_Sum.f k (y188 ++ ((l2.take ((wrap64 (16 + (wrap64 (t184)))) : Int).toNat).drop 16))).bind fun t195 => (if t186 = t195 then (if 4 ≤ (l2.length : Int) then ((seal_read.f k (l2.drop 4)).bind fun t197 => (if t197 = a0 then (if 8 ≤ (l2.length : Int) then ((seal_read.f k (l2.drop 8)).bind fun t199 => (if t199 = a1 then (if ([] : List Int).length + ((l2.take ((wrap64 (16 + (wrap64 (t184)))) : Int).toNat).drop 16).length < 140737488355328 then (some ((([] : List Int) ++ ((l2.take ((wrap64 (16 + (wrap64 (t184)))) : Int).toNat).drop 16)), wrap64 (16 + (wrap64 (t184))), 0)) else (none)) else (some (([] : List Int), 0, 10)))) else (none)) else (some (([] : List Int), 0, 10)))) else (none)) else (some (([] : List Int), 0, 4)))) else (none)) else (none)) else (none))) else (none)) = some (r1, r2, r3) := H
     have A9 := Aside0.mk A90
     clear A90
     have c10b0 := eq_true (of_decide_eq_true (by first | (with_reducible assumption) | assumption) : 12 ≤ (l2.length : Int))
     by_cases c11 : ([] : List Int).length + (l2.take 12).length < 140737488355328
     ·rw [if_pos c11] at H
      have LMc11 := Aside0.mk c11
      clear c11
      obtain ⟨y188, hy188⟩ : ∃ y_ : List Int, y_ = (([] : List Int) ++ (l2.take 12)) := ⟨_, rfl⟩
      replace H : (if 16 ≤ (wrap64 (16 + (wrap64 (t184)))) then (if (wrap64 (16 + (wrap64 (t184)))) ≤ (l2.length : Int) then (if y188.length + ((l2.take ((wrap64 (16 + (wrap64 (t184)))) : Int).toNat).drop 16).length < 140737488355328 then ((seal_Sum.f k (y188 ++ ((l2.take ((wrap64 (16 + (wrap64 (t184)))) : Int).toNat).drop 16))).bind fun t195 => (if t186 = t195 then (if 4 ≤ (l2.length : Int) then ((seal_read.f k (l2.drop 4)).bind fun t197 => (if t197 = a0 then (if 8 ≤ (l2.length : Int) then ((seal_read.f k (l2.drop 8)).bind fun t199 => (if t199 = a1 then (if ([] : List Int).length + ((l2.take ((wrap64 (16 + (wrap64 (t184)))) : Int).toNat).drop 16).length < 140737488355328 then (some ((([] : List Int) ++ ((l2.take ((wrap64 (16 + (wrap64 (t184)))) : Int).toNat).drop 16)), wrap64 (16 + (wrap64 (t184))), 0)) else (none)) else (some (([] : List Int), 0, 10)))) else (none)) else (some (([] : List Int), 0, 10)))) else (none)) else (some (([] : List Int), 0, 4)))) else (none)) else (none)) else (none)) = some (r1, r2, r3) := by first | (rw [hy188]; with_reducible exact H) | (have H2_ := (Option.bind_some _ _).symm.trans H; rw [hy188]; with_reducible exact H2_) | (have H2_ := (Option.bind_some _ _).symm.trans H; with_reducible exact H2_) | with_reducible exact H | (rw [hy188]; exact H) | exact H
      have Ny188 := Aside0.mk hy188
      clear hy188
      by_cases c12 : 16 ≤ (wrap64 (16 + (wrap64 (t184))))
      ·rw [if_pos c12] at H
       have c12b0 := eq_true c12
       have c12b1 : decide (16 ≤ (wrap64 (16 + (wrap64 (t184))))) = true := decide_eq_true c12
       by_cases c13 : (wrap64 (16 + (wrap64 (t184)))) ≤ (l2.length : Int)
       ·rw [if_pos c13] at H
        have c13b0 := eq_true c13
        have c13b1 : decide ((wrap64 (16 + (wrap64 (t184)))) ≤ (l2.length : Int)) = true := decide_eq_true c13
        by_cases c14 : y188.length + ((l2.take ((wrap64 (16 + (wrap64 (t184)))) : Int).toNat).drop 16).length < 140737488355328
        ·rw [if_pos c14] at H
         have LMc14 := Aside0.mk c14
         clear c14
         obtain ⟨y192, hy192⟩ : ∃ y_ : List Int, y_ = (y188 ++ ((l2.take ((wrap64 (16 + (wrap64 (t184)))) : Int).toNat).drop 16)) := ⟨_, rfl⟩
         replace H : ((seal_Sum.f k y192).bind fun t195 => (if t186 = t195 then (if 4 ≤ (l2.length : Int) then ((seal_read.f k (l2.drop 4)).bind fun t197 => (if t197 = a0 then (if 8 ≤ (l2.length : Int) then ((seal_read.f k (l2.drop 8)).bind fun t199 => (if t199 = a1 then (if ([] : List Int).length + ((l2.take ((wrap64 (16 + (wrap64 (t184)))) : Int).toNat).drop 16).length < 140737488355328 then (some ((([] : List Int) ++ ((l2.take ((wrap64 (16 + (wrap64 (t184)))) : Int).toNat).drop 16)), wrap64 (16 + (wrap64 (t184))), 0)) else (none)) else (some (([] : List Int), 0, 10)))) else (none)) else (some (([] : List Int), 0, 10)))) else (none)) else (some (([] : List Int), 0, 4)))) = some (r1, r2, r3) := by first | (rw [hy192]; with_reducible exact H) | (have H2_ := (Option.bind_some _ _).symm.trans H; rw [hy192]; with_reducible exact H2_) | (have H2_ := (Option.bind_some _ _).symm.trans H; with_reducible exact H2_) | with_reducible exact H | (rw [hy192]; exact H) | exact H
         have Ny192 := Aside0.mk hy192
         clear hy192
         replace H := Option.bind_eq_some_iff.mp H
         obtain ⟨t195, A150, H⟩ := H
         replace H : (if t186 = t195 then (if 4 ≤ (l2.length : Int) then ((seal_read.f k (l2.drop 4)).bind fun t197 => (if t197 = a0 then (if 8 ≤ (l2.length : Int) then ((seal_read.f k (l2.drop 8)).bind fun t199 => (if t199 = a1 then (if ([] : List Int).length + ((l2.take ((wrap64 (16 + (wrap64 (t184)))) : Int).toNat).drop 16).length < 140737488355328 then (some ((([] : List Int) ++ ((l2.take ((wrap64 (16 + (wrap64 (t184)))) : Int).toNat).drop 16)), wrap64 (16 + (wrap64 (t184))), 0)) else (none)) else (some (([] : List Int), 0, 10)))) else (none)) else (some (([] : List Int), 0, 10)))) else (none)) else (some (([] : List Int), 0, 4))) = some (r1, r2, r3) := H
         have A15 := Aside0.mk A150
         clear A150
         by_cases c16 : t186 = t195
         ·rw [if_pos c16] at H
          have c16b0 : (t186 == t195) = true := beq_iff_eq.mpr c16
          have c16b1 : (t186 != t195) = false := bne_eq_false_iff_eq.mpr c16
          clear c16
          by_cases c17 : 4 ≤ (l2.length : Int)
          ·rw [if_pos c17] at H
           have c17b0 := eq_true c17
           have c17b1 : decide (4 ≤ (l2.length : Int)) = true := decide_eq_true c17
           clear c17
           replace H := Option.bind_eq_some_iff.mp H
           obtain ⟨t197, A180, H⟩ := H
           replace H : (if t197 = a0 then (if 8 ≤ (l2.length : Int) then ((seal_read.f k (l2.drop 8)).bind fun t199 => (if t199 = a1 then (if ([] : List Int).length + ((l2.take ((wrap64 (16 + (wrap64 (t184)))) : Int).toNat).drop 16).length < 140737488355328 then (some ((([] : List Int) ++ ((l2.take ((wrap64 (16 + (wrap64 (t184)))) : Int).toNat).drop 16)), wrap64 (16 + (wrap64 (t184))), 0)) else (none)) else (some (([] : List Int), 0, 10)))) else (none)) else (some (([] : List Int), 0, 10))) = some (r1, r2, r3) := H
           have A18 := Aside0.mk A180
           clear A180
           by_cases c19 : t197 = a0
           ·rw [if_pos c19] at H
            have c19b0 : (t197 == a0) = true := beq_iff_eq.mpr c19
            have c19b1 : (t197 != a0) = false := bne_eq_false_iff_eq.mpr c19
            clear c19
            by_cases c20 : 8 ≤ (l2.length : Int)
            ·rw [if_pos c20] at H
             have c20b0 := eq_true c20
             have c20b1 : decide (8 ≤ (l2.length : Int)) = true := decide_eq_true c20
             clear c20
             replace H := Option.bind_eq_some_iff.mp H
             obtain ⟨t199, A210, H⟩ := H
             replace H : (if t199 = a1 then (if ([] : List Int).length + ((l2.take ((wrap64 (16 + (wrap64 (t184)))) : Int).toNat).drop 16).length < 140737488355328 then (some ((([] : List Int) ++ ((l2.take ((wrap64 (16 + (wrap64 (t184)))) : Int).toNat).drop 16)), wrap64 (16 + (wrap64 (t184))), 0)) else (none)) else (some (([] : List Int), 0, 10))) = some (r1, r2, r3) := H
             have A21 := Aside0.mk A210
             clear A210
             by_cases c22 : t199 = a1
             ·rw [if_pos c22] at H
              have c22b0 : (t199 == a1) = true := beq_iff_eq.mpr c22
              have c22b1 : (t199 != a1) = false := bne_eq_false_iff_eq.mpr c22
              clear c22
              have c23b0 := eq_true (of_decide_eq_true (by first | (with_reducible assumption) | assumption) : 16 ≤ (wrap64 (16 + (wrap64 (t184)))))
              have c24b0 := eq_true (of_decide_eq_true (by first | (with_reducible assumption) | assumption) : (wrap64 (16 + (wrap64 (t184)))) ≤ (l2.length : Int))
              by_cases c25 : ([] : List Int).length + ((l2.take ((wrap64 (16 + (wrap64 (t184)))) : Int).toNat).drop 16).length < 140737488355328
              ·rw [if_pos c25] at H
               have LMc25 := Aside0.mk c25
               clear c25
               obtain ⟨y201, hy201⟩ : ∃ y_ : List Int, y_ = (([] : List Int) ++ ((l2.take ((wrap64 (16 + (wrap64 (t184)))) : Int).toNat).drop 16)) := ⟨_, rfl⟩
               replace H : (some (y201, wrap64 (16 + (wrap64 (t184))), 0)) = some (r1, r2, r3) := by first | (rw [hy201]; with_reducible exact H) | (have H2_ := (Option.bind_some _ _).symm.trans H; rw [hy201]; with_reducible exact H2_) | (have H2_ := (Option.bind_some _ _).symm.trans H; with_reducible exact H2_) | with_reducible exact H | (rw [hy201]; exact H) | exact H
               have Ny201 := Aside0.mk hy201
               clear hy201
               simp only [Option.some.injEq, Prod.mk.injEq] at H
               obtain ⟨rfl, rfl, rfl⟩ := H
               go_enter Tryd.func17, Tryd.ntmps17
               try go_wp2_with (first | ((with_reducible refine gate_callee (f := 30) rfl ?_); refine goesL_ (some 14) rfl rfl Tryd.func30 (by kernel_rfl) rfl #[.slice A2 l2.length c2] rfl (by (try simp only [List.map_toArray, List.map_cons, List.map_nil]); first | done | rfl | (simp only [List.length_drop, List.length_take]; rfl)) ?_; (with_reducible refine (seal_read.calls k _ _ l2 t184 _ ?side1 ?side2 A5.out).mono ?_); (case side1 => repeat (first | exact HR2.out | exact (Kd.C_below HR2.out HB.out) | (with_reducible refine Kd.C_alloc ?_ _) | (with_reducible refine Kd.C_drewN ?_ _) | (with_reducible refine Kd.C_drew ?_))); (case side2 => exact HC2.out); rintro e w' ⟨rfl, ⟨nd, rfl⟩⟩; refine ⟨_, rfl, ?_⟩))
               obtain ⟨i027, hi027, _, hsz27, _⟩ := info_parts info5
               obtain ⟨A27, hcut27, hA27, hC27⟩ := print_drop_of (P := Tryd.prog) (Value.int .u8) 0 25 5 .i64 Tryd.underlying25 hi027 hsz27 A2 c2 l2 12 (by omega) (of_decide_eq_true (by first | (with_reducible assumption) | assumption)) HC2.out
               have HR185 := Aside0.mk (Kd.C_of_reads (h1 := fun _ => rfl) (hA27 _ (Kd.reads_of_C HR2.out)))
               have HC185 := Aside0.mk hC27
               clear hA27 hC27 hi027 hsz27
               obtain ⟨i028, hi028, _, hsz28, _⟩ := info_parts info5
               obtain ⟨hcut28, hA28, hC28⟩ := print_take_of (P := Tryd.prog) (Value.int .u8) 0 25 5 .i64 Tryd.underlying25 hi028 hsz28 A2 c2 l2 12 (by omega) (of_decide_eq_true (by first | (with_reducible assumption) | assumption)) HC2.out
               have HR187 := Aside0.mk (Kd.C_of_reads (h1 := fun _ => rfl) (hA28 _ (Kd.reads_of_C HR2.out)))
               have HC187 := Aside0.mk hC28
               clear hA28 hC28 hi028 hsz28
               obtain ⟨i029, hi029, _, hsz29, _⟩ := info_parts info5
               obtain ⟨A29, hcut29, hA29, hC29⟩ := print_mid_of (P := Tryd.prog) (Value.int .u8) 0 25 5 .i64 .i64 Tryd.underlying25 hi029 hsz29 A2 c2 l2 16 (wrap64 (16 + (wrap64 (t184)))) (by omega) (by first | omega | exact of_decide_eq_true (by first | (with_reducible assumption) | assumption)) (of_decide_eq_true (by first | (with_reducible assumption) | assumption)) HC2.out
               have HR191 := Aside0.mk (Kd.C_of_reads (h1 := fun _ => rfl) (hA29 _ (Kd.reads_of_C HR2.out)))
               have HC191 := Aside0.mk hC29
               clear hA29 hC29 hi029 hsz29
               refine start_ (n := 14) (S := fun w' => True) (ds := []) #[F,F,F,F,F,F,F,F,F,F,F,F,F,F] (by kernel_rfl) rfl rfl trivial (fun hHeld => ?_); refine with_tabW seal_Open.tab8 seal_Open.bits8 (fun HT_ HW_ => ?_)
               (generalize hq_ : World.drew _ = w26 at HR185 HR187 HR191 hHeld ⊢; have n0_ : Aside0 (Below w.heap.size w w26) := ⟨by rw [← hq_]; repeat (first | exact HB.out | apply kE | apply kM)⟩; clear HB hq_; have HB := n0_; clear n0_)
               refine pure_ (i := 0) (N := some 26) (v := ?_) (a' := ?_) #[T,F,F,F,F,F,F,F,F,F,F,F,F,F] rfl rfl (any_of HT_.out (by kernel_rfl)) (fun _ _ _ h => h) (Or.inl ⟨by rfl, ?_⟩) ?_ ?_
               rotate_left
               ·intro w'
                go_simp
                with_reducible rfl
               rotate_left
               ·simp only [Act.put, List.setIfInBounds_toArray, List.set_cons_zero, List.set_cons_succ, i64_w, i32_w]
                rfl
               refine pure_ (i := 1) (N := some 27) (v := ?_) (a' := ?_) #[T,T,F,F,F,F,F,F,F,F,F,F,F,F] rfl rfl (any_of HT_.out (by kernel_rfl)) (fun _ _ _ h => h) (Or.inl ⟨by rfl, ?_⟩) ?_ ?_
               rotate_left
               ·intro w'
                go_simp
                with_reducible rfl
               rotate_left
               ·simp only [Act.put, List.setIfInBounds_toArray, List.set_cons_zero, List.set_cons_succ, i64_w, i32_w]
                rfl
               refine pure_ (i := 3) (N := some 29) (v := ?_) (a' := ?_) #[T,T,F,T,F,F,F,F,F,F,F,F,F,F] rfl rfl (any_of HT_.out (by kernel_rfl)) (fun _ _ _ h => h) (Or.inl ⟨by rfl, ?_⟩) ?_ ?_
               rotate_left
               ·intro w'
                go_simp
                with_reducible rfl
               rotate_left
               ·simp only [Act.put, List.setIfInBounds_toArray, List.set_cons_zero, List.set_cons_succ, i64_w, i32_w]
                rfl
               refine pure_ (i := 4) (N := some 30) (v := ?_) (a' := ?_) #[T,T,F,T,T,F,F,F,F,F,F,F,F,F] rfl rfl (any_of HT_.out (by kernel_rfl)) (fun _ _ _ h => h) (Or.inl ⟨by rfl, ?_⟩) ?_ ?_
               rotate_left
               ·intro w'
                go_simp
                with_reducible rfl
               rotate_left
               ·simp only [Act.put, List.setIfInBounds_toArray, List.set_cons_zero, List.set_cons_succ, i64_w, i32_w]
                rfl
               refine pure_ (i := 6) (N := some 32) (v := ?_) (a' := ?_) #[T,T,F,T,T,F,T,F,F,F,F,F,F,F] rfl rfl (any_of HT_.out (by kernel_rfl)) (fun _ _ _ h => h) (Or.inl ⟨by rfl, ?_⟩) ?_ ?_
               rotate_left
               ·intro w'
                go_simp
                with_reducible rfl
               rotate_left
               ·simp only [Act.put, List.setIfInBounds_toArray, List.set_cons_zero, List.set_cons_succ, i64_w, i32_w]
                rfl
               refine pure_ (i := 7) (N := some 33) (v := ?_) (a' := ?_) #[T,T,F,T,T,F,T,T,F,F,F,F,F,F] rfl rfl (any_of HT_.out (by kernel_rfl)) (fun _ _ _ h => h) (Or.inl ⟨by rfl, ?_⟩) ?_ ?_
               rotate_left
               ·intro w'
                go_simp
                with_reducible rfl
               rotate_left
               ·simp only [Act.put, List.setIfInBounds_toArray, List.set_cons_zero, List.set_cons_succ, i64_w, i32_w]
                rfl
               refine pure_ (i := 8) (N := some 34) (v := ?_) (a' := ?_) #[T,T,F,T,T,F,T,T,T,F,F,F,F,F] rfl rfl (any_of HT_.out (by kernel_rfl)) (fun _ _ _ h => h) (Or.inl ⟨by rfl, ?_⟩) ?_ ?_
               rotate_left
               ·intro w'
                go_simp
                with_reducible rfl
               rotate_left
               ·simp only [Act.put, List.setIfInBounds_toArray, List.set_cons_zero, List.set_cons_succ, i64_w, i32_w]
                rfl
               refine pure_ (i := 9) (N := some 35) (v := ?_) (a' := ?_) #[T,T,F,T,T,F,T,T,T,T,F,F,F,F] rfl rfl (any_of HT_.out (by kernel_rfl)) (fun _ _ _ h => h) (Or.inl ⟨by rfl, ?_⟩) ?_ ?_
               rotate_left
               ·intro w'
                go_simp
                with_reducible rfl
               rotate_left
               ·simp only [Act.put, List.setIfInBounds_toArray, List.set_cons_zero, List.set_cons_succ, i64_w, i32_w]
                rfl
               refine one_ (i := 2) (N := some 28) #[T,T,T,T,T,F,T,T,T,T,F,F,F,F] rfl rfl (one_of HT_.out (by kernel_rfl)) (by decide) (fun K hK => ?_)
               refine goes_ Tryd.func30 (by kernel_rfl) rfl #[.slice A27 (l2.drop 12).length (c2 - 12)] (by rfl) rfl rfl (by (try simp only [List.map_toArray, List.map_cons, List.map_nil]); first | done | (rw [show (l2.drop 12).length = (l2.length - 12) from List.length_drop] <;> rfl) | rfl | (simp only [List.length_drop, List.length_take]; rfl)) ?_
               with_reducible refine (seal_read.calls k _ _ (l2.drop 12) t186 _ ?side1 ?side2 A9.out).mono ?_
               (case side1 => repeat (first | exact (Kd.C_below HR185.out HB.out) | exact HR185.out | (with_reducible refine Kd.C_alloc ?_ _) | (with_reducible refine Kd.C_drewN ?_ _) | (with_reducible refine Kd.C_drew ?_)))
               (case side2 => exact HC185.out)
               rintro e w' ⟨rfl, ⟨nd, rfl⟩⟩
               refine ⟨_, rfl, ?_⟩
               refine hK.out _ _ trivial (fun hHeld => ?_)
               clear hK K
               refine norm_ (a' := ?_) ?_ ?_
               rotate_left
               ·show Act.put _ (some 28) _ = _
                simp only [Act.put, List.setIfInBounds_toArray, List.set_cons_zero, List.set_cons_succ, i64_w, i32_w]
                rfl
               refine one_ (i := 5) (N := some 31) #[T,T,T,T,T,T,T,T,T,T,F,F,F,F] rfl rfl (one_of HT_.out (by kernel_rfl)) (by decide) (fun K hK => ?_)
               refine Kd.R_append_rows_step (Kd.int .u8) (w0 := w) w.heap.size (by rfl) (.const (.slice none 0 0)) (.tmp 30) 25 5 (.int .u8 0) 1 rfl Tryd.underlying25 info5 rfl (by decide) (by omega) (.slice none 0 0) ([] : List Int) (l2.take 12) _ _ _ (fun _ => True) (fun _ => False) rfl rfl ?aO ?aR (fun _ _ h => h) (fun _ h => h.elim) ?aF ?aB ?aS ?aL ?_
               (case aR => first | (simp only [← List.length_take]; repeat (first | exact (Kd.C_below HR187.out (by repeat (first | (with_reducible first | exact HB.out | apply kL | apply kM | apply kE) | exact HB.out))) | exact HR187.out | (with_reducible refine Kd.C_alloc ?_ _) | (with_reducible refine Kd.C_drewN ?_ _) | (with_reducible refine Kd.C_drew ?_)); done) | (rw [← show (l2.take 12).length = 12 from (by rw [List.length_take]; have h_ : (12 : Int) ≤ (l2.length : Int) := of_decide_eq_true (by first | (with_reducible assumption) | assumption); omega)]; repeat (first | exact (Kd.C_below HR187.out (by repeat (first | (with_reducible first | exact HB.out | apply kL | apply kM | apply kE) | exact HB.out))) | exact HR187.out | (with_reducible refine Kd.C_alloc ?_ _) | (with_reducible refine Kd.C_drewN ?_ _) | (with_reducible refine Kd.C_drew ?_)); done) | (repeat (first | exact (Kd.C_below HR187.out (by repeat (first | (with_reducible first | exact HB.out | apply kL | apply kM | apply kE) | exact HB.out))) | exact HR187.out | (with_reducible refine Kd.C_alloc ?_ _) | (with_reducible refine Kd.C_drewN ?_ _) | (with_reducible refine Kd.C_drew ?_))))
               (case aB => exact (by repeat (first | (with_reducible first | exact HB.out | apply kL | apply kM | apply kE) | exact HB.out)))
               (case aF => exact (fun _ _ => trivial))
               (case aO => exact ((Kd.R_nil _ _ _ _ (fun _ => True))))
               (case aS => exact (below_size (by repeat (first | (with_reducible first | exact HB.out | apply kL | apply kM | apply kE) | exact HB.out))))
               (case aL => have := LMc11.out; have hlx_ := (show (l2.take 12).length = 12 from (by rw [List.length_take]; have h_ : (12 : Int) ≤ (l2.length : Int) := of_decide_eq_true (by first | (with_reducible assumption) | assumption); omega)); omega)
               intro v189 w30 ho hb hg hat
               rw [← Ny188.out] at ho
               have n0_ := Aside0.mk (hb)
               have n1_ := Aside0.mk (ho)
               clear HB
               have HB := n0_
               have HO190 := n1_
               clear n0_ n1_
               clear ho hb hg hat
               refine hK.out _ _ trivial (fun hHeld => ?_)
               clear hK K
               refine norm_ (a' := ?_) ?_ ?_
               rotate_left
               ·show Act.put _ (some 31) _ = _
                simp only [Act.put, List.setIfInBounds_toArray, List.set_cons_zero, List.set_cons_succ, i64_w, i32_w]
                rfl
               refine one_ (i := 10) (N := some 36) #[T,T,T,T,T,T,T,T,T,T,T,F,F,F] rfl rfl (one_of HT_.out (by kernel_rfl)) (by decide) (fun K hK => ?_)
               refine Kd.R_append_rows_step (Kd.int .u8) (w0 := w) w.heap.size (by rfl) (.tmp 31) (.tmp 35) 25 5 (.int .u8 0) 1 rfl Tryd.underlying25 info5 rfl (by decide) (by omega) v189 y188 ((l2.take ((wrap64 (16 + (wrap64 (t184)))) : Int).toNat).drop 16) _ _ _ (fun _ => True) (fun _ => False) rfl rfl ?aO ?aR (fun _ _ h => h) (fun _ h => h.elim) ?aF ?aB ?aS ?aL ?_
               (case aR => first | (simp only [← List.length_take]; repeat (first | exact (Kd.C_below HR191.out HB.out) | exact HR191.out | (with_reducible refine Kd.C_alloc ?_ _) | (with_reducible refine Kd.C_drewN ?_ _) | (with_reducible refine Kd.C_drew ?_)); done) | (rw [← show ((l2.take ((wrap64 (16 + (wrap64 (t184)))) : Int).toNat).drop 16).length = ((wrap64 (16 + (wrap64 (t184)))).toNat - 16) from (by rw [List.length_drop, List.length_take]; have h_ : ((wrap64 (16 + (wrap64 (t184)))) : Int) ≤ (l2.length : Int) := of_decide_eq_true (by first | (with_reducible assumption) | assumption); omega)]; repeat (first | exact (Kd.C_below HR191.out HB.out) | exact HR191.out | (with_reducible refine Kd.C_alloc ?_ _) | (with_reducible refine Kd.C_drewN ?_ _) | (with_reducible refine Kd.C_drew ?_)); done) | (repeat (first | exact (Kd.C_below HR191.out HB.out) | exact HR191.out | (with_reducible refine Kd.C_alloc ?_ _) | (with_reducible refine Kd.C_drewN ?_ _) | (with_reducible refine Kd.C_drew ?_))))
               (case aB => exact (by repeat (first | (with_reducible first | exact HB.out | apply kL | apply kM | apply kE) | exact HB.out)))
               (case aF => exact (fun _ _ => trivial))
               (case aO => exact (by (with_reducible repeat (first | apply Kd.R_alloc | apply Kd.R_drewN | apply Kd.R_drew)); exact HO190.out))
               (case aS => exact (below_size (by repeat (first | (with_reducible first | exact HB.out | apply kL | apply kM | apply kE) | exact HB.out))))
               (case aL => have := LMc14.out; have hlx_ := (show ((l2.take ((wrap64 (16 + (wrap64 (t184)))) : Int).toNat).drop 16).length = ((wrap64 (16 + (wrap64 (t184)))).toNat - 16) from (by rw [List.length_drop, List.length_take]; have h_ : ((wrap64 (16 + (wrap64 (t184)))) : Int) ≤ (l2.length : Int) := of_decide_eq_true (by first | (with_reducible assumption) | assumption); omega)); omega)
               intro v193 w31 ho hb hg hat
               rw [← Ny192.out] at ho
               have n0_ := Aside0.mk (hb)
               have n1_ := Aside0.mk (ho)
               clear HB
               clear HO190
               have HB := n0_
               have HO194 := n1_
               clear n0_ n1_
               clear ho hb hg hat
               obtain ⟨Ao32, co32, eo32⟩ := Kd.R_slice HO194.out
               (first | subst eo32 | (injection eo32 with f1_ f2_ f3_; have f4_ := f1_.symm; have f5_ := f3_.symm; clear f1_ f2_ f3_; subst f4_; subst f5_))
               refine hK.out _ _ trivial (fun hHeld => ?_)
               clear hK K
               refine norm_ (a' := ?_) ?_ ?_
               rotate_left
               ·show Act.put _ (some 36) _ = _
                simp only [Act.put, List.setIfInBounds_toArray, List.set_cons_zero, List.set_cons_succ, i64_w, i32_w]
                rfl
               refine one_ (i := 11) (N := some 37) #[T,T,T,T,T,T,T,T,T,T,T,T,F,F] rfl rfl (one_of HT_.out (by kernel_rfl)) (by decide) (fun K hK => ?_)
               refine goes_ Tryd.func29 (by kernel_rfl) rfl #[.slice Ao32 y192.length co32] (by rfl) rfl rfl (by (try simp only [List.map_toArray, List.map_cons, List.map_nil]); first | done | rfl | (simp only [List.length_drop, List.length_take]; rfl)) ?_
               with_reducible refine (seal_Sum.calls k _ _ y192 t195 _ ?side1 ?side2 ?side3 A15.out).mono ?_
               (case side1 => repeat (first | exact (Kd.R_reads' HO194.out).2.2 | (with_reducible refine Kd.C_alloc ?_ _) | (with_reducible refine Kd.C_drewN ?_ _) | (with_reducible refine Kd.C_drew ?_)))
               (case side2 => exact (Kd.R_reads' HO194.out).2.1)
               (case side3 => repeat (first | exact (Kd.C_below HRG0.out HB.out) | exact HRG0.out | (with_reducible refine Kd.C_alloc ?_ _) | (with_reducible refine Kd.C_drewN ?_ _) | (with_reducible refine Kd.C_drew ?_)))
               rintro e w' ⟨rfl, ⟨nd, rfl⟩⟩
               refine ⟨_, rfl, ?_⟩
               refine hK.out _ _ trivial (fun hHeld => ?_)
               clear hK K
               refine norm_ (a' := ?_) ?_ ?_
               rotate_left
               ·show Act.put _ (some 37) _ = _
                simp only [Act.put, List.setIfInBounds_toArray, List.set_cons_zero, List.set_cons_succ, i64_w, i32_w]
                rfl
               refine pure_ (i := 12) (N := some 38) (v := ?_) (a' := ?_) #[T,T,T,T,T,T,T,T,T,T,T,T,T,F] rfl rfl (any_of HT_.out (by kernel_rfl)) (fun _ _ _ h => h) (Or.inl ⟨by rfl, ?_⟩) ?_ ?_
               rotate_left
               ·intro w'
                go_simp
                with_reducible rfl
               rotate_left
               ·simp only [Act.put, List.setIfInBounds_toArray, List.set_cons_zero, List.set_cons_succ, i64_w, i32_w]
                rfl
               refine pure_ (i := 13) (N := some 25) (v := ?_) (a' := ?_) #[T,T,T,T,T,T,T,T,T,T,T,T,T,T] rfl rfl (any_of HT_.out (by kernel_rfl)) (fun _ _ _ h => h) (Or.inl ⟨by rfl, ?_⟩) ?_ ?_
               rotate_left
               ·intro w'
                go_simp
                with_reducible rfl
               rotate_left
               ·simp only [Act.put, List.setIfInBounds_toArray, List.set_cons_zero, List.set_cons_succ, i64_w, i32_w]
                rfl
               refine done_ (done_of HT_.out (by kernel_rfl)) ?_
               obtain ⟨i033, hi033, _, hsz33, _⟩ := info_parts info5
               obtain ⟨A33, hcut33, hA33, hC33⟩ := print_drop_of (P := Tryd.prog) (Value.int .u8) 0 25 5 .i64 Tryd.underlying25 hi033 hsz33 A2 c2 l2 4 (by omega) (of_decide_eq_true (by first | (with_reducible assumption) | assumption)) HC2.out
               have HR196 := Aside0.mk (Kd.C_of_reads (h1 := fun _ => rfl) (hA33 _ (Kd.reads_of_C HR2.out)))
               have HC196 := Aside0.mk hC33
               clear hA33 hC33 hi033 hsz33
               try go_wp2_with (first | ((with_reducible refine gate_callee (f := 30) rfl ?_); refine goesL_ (some 42) rfl rfl Tryd.func30 (by kernel_rfl) rfl #[.slice A33 (l2.drop 4).length (c2 - 4)] rfl (by (try simp only [List.map_toArray, List.map_cons, List.map_nil]); first | done | (rw [show (l2.drop 4).length = (l2.length - 4) from List.length_drop] <;> rfl) | rfl | (simp only [List.length_drop, List.length_take]; rfl)) ?_; (with_reducible refine (seal_read.calls k _ _ (l2.drop 4) t197 _ ?side1 ?side2 A18.out).mono ?_); (case side1 => repeat (first | exact (Kd.C_below HR196.out (by repeat (first | (with_reducible first | exact HB.out | apply kL | apply kM | apply kE) | exact HB.out))) | exact HR196.out | (with_reducible refine Kd.C_alloc ?_ _) | (with_reducible refine Kd.C_drewN ?_ _) | (with_reducible refine Kd.C_drew ?_))); (case side2 => exact HC196.out); rintro e w' ⟨rfl, ⟨nd, rfl⟩⟩; refine ⟨_, rfl, ?_⟩; obtain ⟨i034, hi034, _, hsz34, _⟩ := info_parts info5; obtain ⟨A34, hcut34, hA34, hC34⟩ := print_drop_of (P := Tryd.prog) (Value.int .u8) 0 25 5 .i64 Tryd.underlying25 hi034 hsz34 A2 c2 l2 8 (by omega) (of_decide_eq_true (by first | (with_reducible assumption) | assumption)) HC2.out; have HR198 := Aside0.mk (Kd.C_of_reads (h1 := fun _ => rfl) (hA34 _ (Kd.reads_of_C HR2.out))); have HC198 := Aside0.mk hC34; clear hA34 hC34 hi034 hsz34) | (go_at_call 30; refine calls_of_args (args' := #[.slice A34 (l2.drop 8).length (c2 - 8)]) (by first | (rw [show (l2.drop 8).length = (l2.length - 8) from List.length_drop] <;> rfl) | rfl | (simp only [List.length_drop, List.length_take]; done) | (simp only [List.length_drop, List.length_take]; rfl)) ?_; (with_reducible refine (seal_read.calls k _ _ (l2.drop 8) t199 _ ?side1 ?side2 A21.out).mono ?_); (case side1 => repeat (first | exact (Kd.C_below HR198.out (by repeat (first | (with_reducible first | exact HB.out | apply kL | apply kM | apply kE) | exact HB.out))) | exact HR198.out | (with_reducible refine Kd.C_alloc ?_ _) | (with_reducible refine Kd.C_drewN ?_ _) | (with_reducible refine Kd.C_drew ?_))); (case side2 => exact HC198.out); rintro e w' ⟨rfl, ⟨nd, rfl⟩⟩; have HR200 := HR191; have HC200 := HC191) | ((with_reducible refine gate_builtin (b := .append) (xs := #[.const (.slice none 0 0), .tmp 55]) rfl ?_); at_builtin; refine Kd.R_append_rows (Kd.int .u8) (w0 := w) w.heap.size rfl (.const (.slice none 0 0)) (.tmp 55) 25 5 (.int .u8 0) 1 rfl Tryd.underlying25 info5 rfl (by decide) (by omega) (.slice none 0 0) ([] : List Int) ((l2.take ((wrap64 (16 + (wrap64 (t184)))) : Int).toNat).drop 16) _ _ _ (fun k_ => some k_ ≠ (.slice Ao32 y192.length co32 : Value).ownBlock) (fun _ => False) rfl rfl ?aO ?aR (fun _ _ h => h) (fun _ h => h.elim) ?aF ?aB ?aS ?aL ?_; (case aR => first | (simp only [← List.length_take]; repeat (first | exact (Kd.C_below HR200.out (by repeat (first | (with_reducible first | exact HB.out | apply kL | apply kM | apply kE) | exact HB.out))) | exact HR200.out | (with_reducible refine Kd.C_alloc ?_ _) | (with_reducible refine Kd.C_drewN ?_ _) | (with_reducible refine Kd.C_drew ?_)); done) | (rw [← show ((l2.take ((wrap64 (16 + (wrap64 (t184)))) : Int).toNat).drop 16).length = ((wrap64 (16 + (wrap64 (t184)))).toNat - 16) from (by rw [List.length_drop, List.length_take]; have h_ : ((wrap64 (16 + (wrap64 (t184)))) : Int) ≤ (l2.length : Int) := of_decide_eq_true (by first | (with_reducible assumption) | assumption); omega)]; repeat (first | exact (Kd.C_below HR200.out (by repeat (first | (with_reducible first | exact HB.out | apply kL | apply kM | apply kE) | exact HB.out))) | exact HR200.out | (with_reducible refine Kd.C_alloc ?_ _) | (with_reducible refine Kd.C_drewN ?_ _) | (with_reducible refine Kd.C_drew ?_)); done) | (repeat (first | exact (Kd.C_below HR200.out (by repeat (first | (with_reducible first | exact HB.out | apply kL | apply kM | apply kE) | exact HB.out))) | exact HR200.out | (with_reducible refine Kd.C_alloc ?_ _) | (with_reducible refine Kd.C_drewN ?_ _) | (with_reducible refine Kd.C_drew ?_)))); (case aB => exact (by repeat (first | (with_reducible first | exact HB.out | apply kL | apply kM | apply kE) | exact HB.out))); (case aF => exact (fun k_ hk => Kd.fresh' (Kd.R_lt (by (with_reducible repeat (first | apply Kd.R_alloc | apply Kd.R_drewN | apply Kd.R_drew)); exact HO194.out)) k_ hk)); (case aO => exact ((Kd.R_nil _ _ _ _ (fun k_ => some k_ ≠ (.slice Ao32 y192.length co32 : Value).ownBlock)))); (case aS => exact (below_size (by repeat (first | (with_reducible first | exact HB.out | apply kL | apply kM | apply kE) | exact HB.out)))); (case aL => have := LMc25.out; have hlx_ := (show ((l2.take ((wrap64 (16 + (wrap64 (t184)))) : Int).toNat).drop 16).length = ((wrap64 (16 + (wrap64 (t184)))).toNat - 16) from (by rw [List.length_drop, List.length_take]; have h_ : ((wrap64 (16 + (wrap64 (t184)))) : Int) ≤ (l2.length : Int) := of_decide_eq_true (by first | (with_reducible assumption) | assumption); omega)); omega); intro v202 w35 ho hb hg hat; rw [← Ny201.out] at ho; have n0_ := Aside0.mk (Kd.R_after (Kd.R_apart_nil (by (with_reducible repeat (first | apply Kd.R_alloc | apply Kd.R_drewN | apply Kd.R_drew)); exact HO194.out)) hg hat); have n1_ := Aside0.mk (hb); have n2_ := Aside0.mk (ho); clear HO194; clear HB; have HO194 := n0_; have HB := n1_; have HO203 := n2_; clear n0_ n1_ n2_; clear ho hb hg hat))
               go_ret3
               exact ⟨_, by first | rfl | (simp [errW_none, errW_some] <;> rfl) | (simp [*, errW_none, errW_some] <;> rfl), by (with_reducible repeat (first | apply Kd.R_alloc | apply Kd.R_drewN | apply Kd.R_drew)); exact Kd.R_mono HO203.out (fun _ hk => trivial), by repeat (first | (with_reducible first | exact HB.out | apply kL | apply kM | apply kE) | exact HB.out)⟩
              ·rw [if_neg c25] at H
               exact absurd H (by simp)
             ·rw [if_neg c22] at H
              have c22b0 : (t199 == a1) = false := beq_eq_false_iff_ne.mpr c22
              have c22b1 : (t199 != a1) = true := bne_iff_ne.mpr c22
              simp only [Option.some.injEq, Prod.mk.injEq] at H
              obtain ⟨rfl, rfl, rfl⟩ := H
              go_enter Tryd.func17, Tryd.ntmps17
              try go_wp2_with (first | ((with_reducible refine gate_callee (f := 30) rfl ?_); refine goesL_ (some 14) rfl rfl Tryd.func30 (by kernel_rfl) rfl #[.slice A2 l2.length c2] rfl (by (try simp only [List.map_toArray, List.map_cons, List.map_nil]); first | done | rfl | (simp only [List.length_drop, List.length_take]; rfl)) ?_; (with_reducible refine (seal_read.calls k _ _ l2 t184 _ ?side1 ?side2 A5.out).mono ?_); (case side1 => repeat (first | exact HR2.out | exact (Kd.C_below HR2.out HB.out) | (with_reducible refine Kd.C_alloc ?_ _) | (with_reducible refine Kd.C_drewN ?_ _) | (with_reducible refine Kd.C_drew ?_))); (case side2 => exact HC2.out); rintro e w' ⟨rfl, ⟨nd, rfl⟩⟩; refine ⟨_, rfl, ?_⟩))
              obtain ⟨i037, hi037, _, hsz37, _⟩ := info_parts info5
              obtain ⟨A37, hcut37, hA37, hC37⟩ := print_drop_of (P := Tryd.prog) (Value.int .u8) 0 25 5 .i64 Tryd.underlying25 hi037 hsz37 A2 c2 l2 12 (by omega) (of_decide_eq_true (by first | (with_reducible assumption) | assumption)) HC2.out
              have HR185 := Aside0.mk (Kd.C_of_reads (h1 := fun _ => rfl) (hA37 _ (Kd.reads_of_C HR2.out)))
              have HC185 := Aside0.mk hC37
              clear hA37 hC37 hi037 hsz37
              obtain ⟨i038, hi038, _, hsz38, _⟩ := info_parts info5
              obtain ⟨hcut38, hA38, hC38⟩ := print_take_of (P := Tryd.prog) (Value.int .u8) 0 25 5 .i64 Tryd.underlying25 hi038 hsz38 A2 c2 l2 12 (by omega) (of_decide_eq_true (by first | (with_reducible assumption) | assumption)) HC2.out
              have HR187 := Aside0.mk (Kd.C_of_reads (h1 := fun _ => rfl) (hA38 _ (Kd.reads_of_C HR2.out)))
              have HC187 := Aside0.mk hC38
              clear hA38 hC38 hi038 hsz38
              obtain ⟨i039, hi039, _, hsz39, _⟩ := info_parts info5
              obtain ⟨A39, hcut39, hA39, hC39⟩ := print_mid_of (P := Tryd.prog) (Value.int .u8) 0 25 5 .i64 .i64 Tryd.underlying25 hi039 hsz39 A2 c2 l2 16 (wrap64 (16 + (wrap64 (t184)))) (by omega) (by first | omega | exact of_decide_eq_true (by first | (with_reducible assumption) | assumption)) (of_decide_eq_true (by first | (with_reducible assumption) | assumption)) HC2.out
              have HR191 := Aside0.mk (Kd.C_of_reads (h1 := fun _ => rfl) (hA39 _ (Kd.reads_of_C HR2.out)))
              have HC191 := Aside0.mk hC39
              clear hA39 hC39 hi039 hsz39
              refine start_ (n := 14) (S := fun w' => True) (ds := []) #[F,F,F,F,F,F,F,F,F,F,F,F,F,F] (by kernel_rfl) rfl rfl trivial (fun hHeld => ?_); refine with_tabW seal_Open.tab8 seal_Open.bits8 (fun HT_ HW_ => ?_)
              (generalize hq_ : World.drew _ = w36 at HR185 HR187 HR191 hHeld ⊢; have n0_ : Aside0 (Below w.heap.size w w36) := ⟨by rw [← hq_]; repeat (first | exact HB.out | apply kE | apply kM)⟩; clear HB hq_; have HB := n0_; clear n0_)
              refine pure_ (i := 0) (N := some 26) (v := ?_) (a' := ?_) #[T,F,F,F,F,F,F,F,F,F,F,F,F,F] rfl rfl (any_of HT_.out (by kernel_rfl)) (fun _ _ _ h => h) (Or.inl ⟨by rfl, ?_⟩) ?_ ?_
              rotate_left
              ·intro w'
               go_simp
               with_reducible rfl
              rotate_left
              ·simp only [Act.put, List.setIfInBounds_toArray, List.set_cons_zero, List.set_cons_succ, i64_w, i32_w]
               rfl
              refine pure_ (i := 1) (N := some 27) (v := ?_) (a' := ?_) #[T,T,F,F,F,F,F,F,F,F,F,F,F,F] rfl rfl (any_of HT_.out (by kernel_rfl)) (fun _ _ _ h => h) (Or.inl ⟨by rfl, ?_⟩) ?_ ?_
              rotate_left
              ·intro w'
               go_simp
               with_reducible rfl
              rotate_left
              ·simp only [Act.put, List.setIfInBounds_toArray, List.set_cons_zero, List.set_cons_succ, i64_w, i32_w]
               rfl
              refine pure_ (i := 3) (N := some 29) (v := ?_) (a' := ?_) #[T,T,F,T,F,F,F,F,F,F,F,F,F,F] rfl rfl (any_of HT_.out (by kernel_rfl)) (fun _ _ _ h => h) (Or.inl ⟨by rfl, ?_⟩) ?_ ?_
              rotate_left
              ·intro w'
               go_simp
               with_reducible rfl
              rotate_left
              ·simp only [Act.put, List.setIfInBounds_toArray, List.set_cons_zero, List.set_cons_succ, i64_w, i32_w]
               rfl
              refine pure_ (i := 4) (N := some 30) (v := ?_) (a' := ?_) #[T,T,F,T,T,F,F,F,F,F,F,F,F,F] rfl rfl (any_of HT_.out (by kernel_rfl)) (fun _ _ _ h => h) (Or.inl ⟨by rfl, ?_⟩) ?_ ?_
              rotate_left
              ·intro w'
               go_simp
               with_reducible rfl
              rotate_left
              ·simp only [Act.put, List.setIfInBounds_toArray, List.set_cons_zero, List.set_cons_succ, i64_w, i32_w]
               rfl
              refine pure_ (i := 6) (N := some 32) (v := ?_) (a' := ?_) #[T,T,F,T,T,F,T,F,F,F,F,F,F,F] rfl rfl (any_of HT_.out (by kernel_rfl)) (fun _ _ _ h => h) (Or.inl ⟨by rfl, ?_⟩) ?_ ?_
              rotate_left
              ·intro w'
               go_simp
               with_reducible rfl
              rotate_left
              ·simp only [Act.put, List.setIfInBounds_toArray, List.set_cons_zero, List.set_cons_succ, i64_w, i32_w]
               rfl
              refine pure_ (i := 7) (N := some 33) (v := ?_) (a' := ?_) #[T,T,F,T,T,F,T,T,F,F,F,F,F,F] rfl rfl (any_of HT_.out (by kernel_rfl)) (fun _ _ _ h => h) (Or.inl ⟨by rfl, ?_⟩) ?_ ?_
              rotate_left
              ·intro w'
               go_simp
               with_reducible rfl
              rotate_left
              ·simp only [Act.put, List.setIfInBounds_toArray, List.set_cons_zero, List.set_cons_succ, i64_w, i32_w]
               rfl
              refine pure_ (i := 8) (N := some 34) (v := ?_) (a' := ?_) #[T,T,F,T,T,F,T,T,T,F,F,F,F,F] rfl rfl (any_of HT_.out (by kernel_rfl)) (fun _ _ _ h => h) (Or.inl ⟨by rfl, ?_⟩) ?_ ?_
              rotate_left
              ·intro w'
               go_simp
               with_reducible rfl
              rotate_left
              ·simp only [Act.put, List.setIfInBounds_toArray, List.set_cons_zero, List.set_cons_succ, i64_w, i32_w]
               rfl
              refine pure_ (i := 9) (N := some 35) (v := ?_) (a' := ?_) #[T,T,F,T,T,F,T,T,T,T,F,F,F,F] rfl rfl (any_of HT_.out (by kernel_rfl)) (fun _ _ _ h => h) (Or.inl ⟨by rfl, ?_⟩) ?_ ?_
              rotate_left
              ·intro w'
               go_simp
               with_reducible rfl
              rotate_left
              ·simp only [Act.put, List.setIfInBounds_toArray, List.set_cons_zero, List.set_cons_succ, i64_w, i32_w]
               rfl
              refine one_ (i := 2) (N := some 28) #[T,T,T,T,T,F,T,T,T,T,F,F,F,F] rfl rfl (one_of HT_.out (by kernel_rfl)) (by decide) (fun K hK => ?_)
              refine goes_ Tryd.func30 (by kernel_rfl) rfl #[.slice A37 (l2.drop 12).length (c2 - 12)] (by rfl) rfl rfl (by (try simp only [List.map_toArray, List.map_cons, List.map_nil]); first | done | (rw [show (l2.drop 12).length = (l2.length - 12) from List.length_drop] <;> rfl) | rfl | (simp only [List.length_drop, List.length_take]; rfl)) ?_
              with_reducible refine (seal_read.calls k _ _ (l2.drop 12) t186 _ ?side1 ?side2 A9.out).mono ?_
              (case side1 => repeat (first | exact (Kd.C_below HR185.out HB.out) | exact HR185.out | (with_reducible refine Kd.C_alloc ?_ _) | (with_reducible refine Kd.C_drewN ?_ _) | (with_reducible refine Kd.C_drew ?_)))
              (case side2 => exact HC185.out)
              rintro e w' ⟨rfl, ⟨nd, rfl⟩⟩
              refine ⟨_, rfl, ?_⟩
              refine hK.out _ _ trivial (fun hHeld => ?_)
              clear hK K
              refine norm_ (a' := ?_) ?_ ?_
              rotate_left
              ·show Act.put _ (some 28) _ = _
               simp only [Act.put, List.setIfInBounds_toArray, List.set_cons_zero, List.set_cons_succ, i64_w, i32_w]
               rfl
              refine one_ (i := 5) (N := some 31) #[T,T,T,T,T,T,T,T,T,T,F,F,F,F] rfl rfl (one_of HT_.out (by kernel_rfl)) (by decide) (fun K hK => ?_)
              refine Kd.R_append_rows_step (Kd.int .u8) (w0 := w) w.heap.size (by rfl) (.const (.slice none 0 0)) (.tmp 30) 25 5 (.int .u8 0) 1 rfl Tryd.underlying25 info5 rfl (by decide) (by omega) (.slice none 0 0) ([] : List Int) (l2.take 12) _ _ _ (fun _ => True) (fun _ => False) rfl rfl ?aO ?aR (fun _ _ h => h) (fun _ h => h.elim) ?aF ?aB ?aS ?aL ?_
              (case aR => first | (simp only [← List.length_take]; repeat (first | exact (Kd.C_below HR187.out (by repeat (first | (with_reducible first | exact HB.out | apply kL | apply kM | apply kE) | exact HB.out))) | exact HR187.out | (with_reducible refine Kd.C_alloc ?_ _) | (with_reducible refine Kd.C_drewN ?_ _) | (with_reducible refine Kd.C_drew ?_)); done) | (rw [← show (l2.take 12).length = 12 from (by rw [List.length_take]; have h_ : (12 : Int) ≤ (l2.length : Int) := of_decide_eq_true (by first | (with_reducible assumption) | assumption); omega)]; repeat (first | exact (Kd.C_below HR187.out (by repeat (first | (with_reducible first | exact HB.out | apply kL | apply kM | apply kE) | exact HB.out))) | exact HR187.out | (with_reducible refine Kd.C_alloc ?_ _) | (with_reducible refine Kd.C_drewN ?_ _) | (with_reducible refine Kd.C_drew ?_)); done) | (repeat (first | exact (Kd.C_below HR187.out (by repeat (first | (with_reducible first | exact HB.out | apply kL | apply kM | apply kE) | exact HB.out))) | exact HR187.out | (with_reducible refine Kd.C_alloc ?_ _) | (with_reducible refine Kd.C_drewN ?_ _) | (with_reducible refine Kd.C_drew ?_))))
              (case aB => exact (by repeat (first | (with_reducible first | exact HB.out | apply kL | apply kM | apply kE) | exact HB.out)))
              (case aF => exact (fun _ _ => trivial))
              (case aO => exact ((Kd.R_nil _ _ _ _ (fun _ => True))))
              (case aS => exact (below_size (by repeat (first | (with_reducible first | exact HB.out | apply kL | apply kM | apply kE) | exact HB.out))))
              (case aL => have := LMc11.out; have hlx_ := (show (l2.take 12).length = 12 from (by rw [List.length_take]; have h_ : (12 : Int) ≤ (l2.length : Int) := of_decide_eq_true (by first | (with_reducible assumption) | assumption); omega)); omega)
              intro v189 w40 ho hb hg hat
              rw [← Ny188.out] at ho
              have n0_ := Aside0.mk (hb)
              have n1_ := Aside0.mk (ho)
              clear HB
              have HB := n0_
              have HO190 := n1_
              clear n0_ n1_
              clear ho hb hg hat
              refine hK.out _ _ trivial (fun hHeld => ?_)
              clear hK K
              refine norm_ (a' := ?_) ?_ ?_
              rotate_left
              ·show Act.put _ (some 31) _ = _
               simp only [Act.put, List.setIfInBounds_toArray, List.set_cons_zero, List.set_cons_succ, i64_w, i32_w]
               rfl
              refine one_ (i := 10) (N := some 36) #[T,T,T,T,T,T,T,T,T,T,T,F,F,F] rfl rfl (one_of HT_.out (by kernel_rfl)) (by decide) (fun K hK => ?_)
              refine Kd.R_append_rows_step (Kd.int .u8) (w0 := w) w.heap.size (by rfl) (.tmp 31) (.tmp 35) 25 5 (.int .u8 0) 1 rfl Tryd.underlying25 info5 rfl (by decide) (by omega) v189 y188 ((l2.take ((wrap64 (16 + (wrap64 (t184)))) : Int).toNat).drop 16) _ _ _ (fun _ => True) (fun _ => False) rfl rfl ?aO ?aR (fun _ _ h => h) (fun _ h => h.elim) ?aF ?aB ?aS ?aL ?_
              (case aR => first | (simp only [← List.length_take]; repeat (first | exact (Kd.C_below HR191.out HB.out) | exact HR191.out | (with_reducible refine Kd.C_alloc ?_ _) | (with_reducible refine Kd.C_drewN ?_ _) | (with_reducible refine Kd.C_drew ?_)); done) | (rw [← show ((l2.take ((wrap64 (16 + (wrap64 (t184)))) : Int).toNat).drop 16).length = ((wrap64 (16 + (wrap64 (t184)))).toNat - 16) from (by rw [List.length_drop, List.length_take]; have h_ : ((wrap64 (16 + (wrap64 (t184)))) : Int) ≤ (l2.length : Int) := of_decide_eq_true (by first | (with_reducible assumption) | assumption); omega)]; repeat (first | exact (Kd.C_below HR191.out HB.out) | exact HR191.out | (with_reducible refine Kd.C_alloc ?_ _) | (with_reducible refine Kd.C_drewN ?_ _) | (with_reducible refine Kd.C_drew ?_)); done) | (repeat (first | exact (Kd.C_below HR191.out HB.out) | exact HR191.out | (with_reducible refine Kd.C_alloc ?_ _) | (with_reducible refine Kd.C_drewN ?_ _) | (with_reducible refine Kd.C_drew ?_))))
              (case aB => exact (by repeat (first | (with_reducible first | exact HB.out | apply kL | apply kM | apply kE) | exact HB.out)))
              (case aF => exact (fun _ _ => trivial))
              (case aO => exact (by (with_reducible repeat (first | apply Kd.R_alloc | apply Kd.R_drewN | apply Kd.R_drew)); exact HO190.out))
              (case aS => exact (below_size (by repeat (first | (with_reducible first | exact HB.out | apply kL | apply kM | apply kE) | exact HB.out))))
              (case aL => have := LMc14.out; have hlx_ := (show ((l2.take ((wrap64 (16 + (wrap64 (t184)))) : Int).toNat).drop 16).length = ((wrap64 (16 + (wrap64 (t184)))).toNat - 16) from (by rw [List.length_drop, List.length_take]; have h_ : ((wrap64 (16 + (wrap64 (t184)))) : Int) ≤ (l2.length : Int) := of_decide_eq_true (by first | (with_reducible assumption) | assumption); omega)); omega)
              intro v193 w41 ho hb hg hat
              rw [← Ny192.out] at ho
              have n0_ := Aside0.mk (hb)
              have n1_ := Aside0.mk (ho)
              clear HB
              clear HO190
              have HB := n0_
              have HO194 := n1_
              clear n0_ n1_
              clear ho hb hg hat
              obtain ⟨Ao42, co42, eo42⟩ := Kd.R_slice HO194.out
              (first | subst eo42 | (injection eo42 with f1_ f2_ f3_; have f4_ := f1_.symm; have f5_ := f3_.symm; clear f1_ f2_ f3_; subst f4_; subst f5_))
              refine hK.out _ _ trivial (fun hHeld => ?_)
              clear hK K
              refine norm_ (a' := ?_) ?_ ?_
              rotate_left
              ·show Act.put _ (some 36) _ = _
               simp only [Act.put, List.setIfInBounds_toArray, List.set_cons_zero, List.set_cons_succ, i64_w, i32_w]
               rfl
              refine one_ (i := 11) (N := some 37) #[T,T,T,T,T,T,T,T,T,T,T,T,F,F] rfl rfl (one_of HT_.out (by kernel_rfl)) (by decide) (fun K hK => ?_)
              refine goes_ Tryd.func29 (by kernel_rfl) rfl #[.slice Ao42 y192.length co42] (by rfl) rfl rfl (by (try simp only [List.map_toArray, List.map_cons, List.map_nil]); first | done | rfl | (simp only [List.length_drop, List.length_take]; rfl)) ?_
              with_reducible refine (seal_Sum.calls k _ _ y192 t195 _ ?side1 ?side2 ?side3 A15.out).mono ?_
              (case side1 => repeat (first | exact (Kd.R_reads' HO194.out).2.2 | (with_reducible refine Kd.C_alloc ?_ _) | (with_reducible refine Kd.C_drewN ?_ _) | (with_reducible refine Kd.C_drew ?_)))
              (case side2 => exact (Kd.R_reads' HO194.out).2.1)
              (case side3 => repeat (first | exact (Kd.C_below HRG0.out HB.out) | exact HRG0.out | (with_reducible refine Kd.C_alloc ?_ _) | (with_reducible refine Kd.C_drewN ?_ _) | (with_reducible refine Kd.C_drew ?_)))
              rintro e w' ⟨rfl, ⟨nd, rfl⟩⟩
              refine ⟨_, rfl, ?_⟩
              refine hK.out _ _ trivial (fun hHeld => ?_)
              clear hK K
              refine norm_ (a' := ?_) ?_ ?_
              rotate_left
              ·show Act.put _ (some 37) _ = _
               simp only [Act.put, List.setIfInBounds_toArray, List.set_cons_zero, List.set_cons_succ, i64_w, i32_w]
               rfl
              refine pure_ (i := 12) (N := some 38) (v := ?_) (a' := ?_) #[T,T,T,T,T,T,T,T,T,T,T,T,T,F] rfl rfl (any_of HT_.out (by kernel_rfl)) (fun _ _ _ h => h) (Or.inl ⟨by rfl, ?_⟩) ?_ ?_
              rotate_left
              ·intro w'
               go_simp
               with_reducible rfl
              rotate_left
              ·simp only [Act.put, List.setIfInBounds_toArray, List.set_cons_zero, List.set_cons_succ, i64_w, i32_w]
               rfl
              refine pure_ (i := 13) (N := some 25) (v := ?_) (a' := ?_) #[T,T,T,T,T,T,T,T,T,T,T,T,T,T] rfl rfl (any_of HT_.out (by kernel_rfl)) (fun _ _ _ h => h) (Or.inl ⟨by rfl, ?_⟩) ?_ ?_
              rotate_left
              ·intro w'
               go_simp
               with_reducible rfl
              rotate_left
              ·simp only [Act.put, List.setIfInBounds_toArray, List.set_cons_zero, List.set_cons_succ, i64_w, i32_w]
               rfl
              refine done_ (done_of HT_.out (by kernel_rfl)) ?_
              obtain ⟨i043, hi043, _, hsz43, _⟩ := info_parts info5
              obtain ⟨A43, hcut43, hA43, hC43⟩ := print_drop_of (P := Tryd.prog) (Value.int .u8) 0 25 5 .i64 Tryd.underlying25 hi043 hsz43 A2 c2 l2 4 (by omega) (of_decide_eq_true (by first | (with_reducible assumption) | assumption)) HC2.out
              have HR196 := Aside0.mk (Kd.C_of_reads (h1 := fun _ => rfl) (hA43 _ (Kd.reads_of_C HR2.out)))
              have HC196 := Aside0.mk hC43
              clear hA43 hC43 hi043 hsz43
              try go_wp2_with (first | ((with_reducible refine gate_callee (f := 30) rfl ?_); refine goesL_ (some 42) rfl rfl Tryd.func30 (by kernel_rfl) rfl #[.slice A43 (l2.drop 4).length (c2 - 4)] rfl (by (try simp only [List.map_toArray, List.map_cons, List.map_nil]); first | done | (rw [show (l2.drop 4).length = (l2.length - 4) from List.length_drop] <;> rfl) | rfl | (simp only [List.length_drop, List.length_take]; rfl)) ?_; (with_reducible refine (seal_read.calls k _ _ (l2.drop 4) t197 _ ?side1 ?side2 A18.out).mono ?_); (case side1 => repeat (first | exact (Kd.C_below HR196.out (by repeat (first | (with_reducible first | exact HB.out | apply kL | apply kM | apply kE) | exact HB.out))) | exact HR196.out | (with_reducible refine Kd.C_alloc ?_ _) | (with_reducible refine Kd.C_drewN ?_ _) | (with_reducible refine Kd.C_drew ?_))); (case side2 => exact HC196.out); rintro e w' ⟨rfl, ⟨nd, rfl⟩⟩; refine ⟨_, rfl, ?_⟩; obtain ⟨i044, hi044, _, hsz44, _⟩ := info_parts info5; obtain ⟨A44, hcut44, hA44, hC44⟩ := print_drop_of (P := Tryd.prog) (Value.int .u8) 0 25 5 .i64 Tryd.underlying25 hi044 hsz44 A2 c2 l2 8 (by omega) (of_decide_eq_true (by first | (with_reducible assumption) | assumption)) HC2.out; have HR198 := Aside0.mk (Kd.C_of_reads (h1 := fun _ => rfl) (hA44 _ (Kd.reads_of_C HR2.out))); have HC198 := Aside0.mk hC44; clear hA44 hC44 hi044 hsz44) | (go_at_call 30; refine calls_of_args (args' := #[.slice A44 (l2.drop 8).length (c2 - 8)]) (by first | (rw [show (l2.drop 8).length = (l2.length - 8) from List.length_drop] <;> rfl) | rfl | (simp only [List.length_drop, List.length_take]; done) | (simp only [List.length_drop, List.length_take]; rfl)) ?_; (with_reducible refine (seal_read.calls k _ _ (l2.drop 8) t199 _ ?side1 ?side2 A21.out).mono ?_); (case side1 => repeat (first | exact (Kd.C_below HR198.out (by repeat (first | (with_reducible first | exact HB.out | apply kL | apply kM | apply kE) | exact HB.out))) | exact HR198.out | (with_reducible refine Kd.C_alloc ?_ _) | (with_reducible refine Kd.C_drewN ?_ _) | (with_reducible refine Kd.C_drew ?_))); (case side2 => exact HC198.out); rintro e w' ⟨rfl, ⟨nd, rfl⟩⟩))
              go_ret3
              exact ⟨_, by first | rfl | (simp [errW_none, errW_some] <;> rfl) | (simp [*, errW_none, errW_some] <;> rfl), by first | exact Kd.R_nil _ _ _ _ _ | exact Kd.N_nil _ _ _ _ _ | exact Kd.V_nil _ _ _ _ _ | exact Kd.Q_nil _ _ _ _ _ | exact Kd.S_nil _ _ _ _ _, by repeat (first | (with_reducible first | exact HB.out | apply kL | apply kM | apply kE) | exact HB.out)⟩
            ·rw [if_neg c20] at H
             exact absurd H (by simp)
           ·rw [if_neg c19] at H
            have c19b0 : (t197 == a0) = false := beq_eq_false_iff_ne.mpr c19
            have c19b1 : (t197 != a0) = true := bne_iff_ne.mpr c19
            simp only [Option.some.injEq, Prod.mk.injEq] at H
            obtain ⟨rfl, rfl, rfl⟩ := H
            go_enter Tryd.func17, Tryd.ntmps17
            try go_wp2_with (first | ((with_reducible refine gate_callee (f := 30) rfl ?_); refine goesL_ (some 14) rfl rfl Tryd.func30 (by kernel_rfl) rfl #[.slice A2 l2.length c2] rfl (by (try simp only [List.map_toArray, List.map_cons, List.map_nil]); first | done | rfl | (simp only [List.length_drop, List.length_take]; rfl)) ?_; (with_reducible refine (seal_read.calls k _ _ l2 t184 _ ?side1 ?side2 A5.out).mono ?_); (case side1 => repeat (first | exact HR2.out | exact (Kd.C_below HR2.out HB.out) | (with_reducible refine Kd.C_alloc ?_ _) | (with_reducible refine Kd.C_drewN ?_ _) | (with_reducible refine Kd.C_drew ?_))); (case side2 => exact HC2.out); rintro e w' ⟨rfl, ⟨nd, rfl⟩⟩; refine ⟨_, rfl, ?_⟩))
            obtain ⟨i046, hi046, _, hsz46, _⟩ := info_parts info5
            obtain ⟨A46, hcut46, hA46, hC46⟩ := print_drop_of (P := Tryd.prog) (Value.int .u8) 0 25 5 .i64 Tryd.underlying25 hi046 hsz46 A2 c2 l2 12 (by omega) (of_decide_eq_true (by first | (with_reducible assumption) | assumption)) HC2.out
            have HR185 := Aside0.mk (Kd.C_of_reads (h1 := fun _ => rfl) (hA46 _ (Kd.reads_of_C HR2.out)))
            have HC185 := Aside0.mk hC46
            clear hA46 hC46 hi046 hsz46
            obtain ⟨i047, hi047, _, hsz47, _⟩ := info_parts info5
            obtain ⟨hcut47, hA47, hC47⟩ := print_take_of (P := Tryd.prog) (Value.int .u8) 0 25 5 .i64 Tryd.underlying25 hi047 hsz47 A2 c2 l2 12 (by omega) (of_decide_eq_true (by first | (with_reducible assumption) | assumption)) HC2.out
            have HR187 := Aside0.mk (Kd.C_of_reads (h1 := fun _ => rfl) (hA47 _ (Kd.reads_of_C HR2.out)))
            have HC187 := Aside0.mk hC47
            clear hA47 hC47 hi047 hsz47
            obtain ⟨i048, hi048, _, hsz48, _⟩ := info_parts info5
            obtain ⟨A48, hcut48, hA48, hC48⟩ := print_mid_of (P := Tryd.prog) (Value.int .u8) 0 25 5 .i64 .i64 Tryd.underlying25 hi048 hsz48 A2 c2 l2 16 (wrap64 (16 + (wrap64 (t184)))) (by omega) (by first | omega | exact of_decide_eq_true (by first | (with_reducible assumption) | assumption)) (of_decide_eq_true (by first | (with_reducible assumption) | assumption)) HC2.out
            have HR191 := Aside0.mk (Kd.C_of_reads (h1 := fun _ => rfl) (hA48 _ (Kd.reads_of_C HR2.out)))
            have HC191 := Aside0.mk hC48
            clear hA48 hC48 hi048 hsz48
            refine start_ (n := 14) (S := fun w' => True) (ds := []) #[F,F,F,F,F,F,F,F,F,F,F,F,F,F] (by kernel_rfl) rfl rfl trivial (fun hHeld => ?_); refine with_tabW seal_Open.tab8 seal_Open.bits8 (fun HT_ HW_ => ?_)
            (generalize hq_ : World.drew _ = w45 at HR185 HR187 HR191 hHeld ⊢; have n0_ : Aside0 (Below w.heap.size w w45) := ⟨by rw [← hq_]; repeat (first | exact HB.out | apply kE | apply kM)⟩; clear HB hq_; have HB := n0_; clear n0_)
            refine pure_ (i := 0) (N := some 26) (v := ?_) (a' := ?_) #[T,F,F,F,F,F,F,F,F,F,F,F,F,F] rfl rfl (any_of HT_.out (by kernel_rfl)) (fun _ _ _ h => h) (Or.inl ⟨by rfl, ?_⟩) ?_ ?_
            rotate_left
            ·intro w'
             go_simp
             with_reducible rfl
            rotate_left
            ·simp only [Act.put, List.setIfInBounds_toArray, List.set_cons_zero, List.set_cons_succ, i64_w, i32_w]
             rfl
            refine pure_ (i := 1) (N := some 27) (v := ?_) (a' := ?_) #[T,T,F,F,F,F,F,F,F,F,F,F,F,F] rfl rfl (any_of HT_.out (by kernel_rfl)) (fun _ _ _ h => h) (Or.inl ⟨by rfl, ?_⟩) ?_ ?_
            rotate_left
            ·intro w'
             go_simp
             with_reducible rfl
            rotate_left
            ·simp only [Act.put, List.setIfInBounds_toArray, List.set_cons_zero, List.set_cons_succ, i64_w, i32_w]
             rfl
            refine pure_ (i := 3) (N := some 29) (v := ?_) (a' := ?_) #[T,T,F,T,F,F,F,F,F,F,F,F,F,F] rfl rfl (any_of HT_.out (by kernel_rfl)) (fun _ _ _ h => h) (Or.inl ⟨by rfl, ?_⟩) ?_ ?_
            rotate_left
            ·intro w'
             go_simp
             with_reducible rfl
            rotate_left
            ·simp only [Act.put, List.setIfInBounds_toArray, List.set_cons_zero, List.set_cons_succ, i64_w, i32_w]
             rfl
            refine pure_ (i := 4) (N := some 30) (v := ?_) (a' := ?_) #[T,T,F,T,T,F,F,F,F,F,F,F,F,F] rfl rfl (any_of HT_.out (by kernel_rfl)) (fun _ _ _ h => h) (Or.inl ⟨by rfl, ?_⟩) ?_ ?_
            rotate_left
            ·intro w'
             go_simp
             with_reducible rfl
            rotate_left
            ·simp only [Act.put, List.setIfInBounds_toArray, List.set_cons_zero, List.set_cons_succ, i64_w, i32_w]
             rfl
            refine pure_ (i := 6) (N := some 32) (v := ?_) (a' := ?_) #[T,T,F,T,T,F,T,F,F,F,F,F,F,F] rfl rfl (any_of HT_.out (by kernel_rfl)) (fun _ _ _ h => h) (Or.inl ⟨by rfl, ?_⟩) ?_ ?_
            rotate_left
            ·intro w'
             go_simp
             with_reducible rfl
            rotate_left
            ·simp only [Act.put, List.setIfInBounds_toArray, List.set_cons_zero, List.set_cons_succ, i64_w, i32_w]
             rfl
            refine pure_ (i := 7) (N := some 33) (v := ?_) (a' := ?_) #[T,T,F,T,T,F,T,T,F,F,F,F,F,F] rfl rfl (any_of HT_.out (by kernel_rfl)) (fun _ _ _ h => h) (Or.inl ⟨by rfl, ?_⟩) ?_ ?_
            rotate_left
            ·intro w'
             go_simp
             with_reducible rfl
            rotate_left
            ·simp only [Act.put, List.setIfInBounds_toArray, List.set_cons_zero, List.set_cons_succ, i64_w, i32_w]
             rfl
            refine pure_ (i := 8) (N := some 34) (v := ?_) (a' := ?_) #[T,T,F,T,T,F,T,T,T,F,F,F,F,F] rfl rfl (any_of HT_.out (by kernel_rfl)) (fun _ _ _ h => h) (Or.inl ⟨by rfl, ?_⟩) ?_ ?_
            rotate_left
            ·intro w'
             go_simp
             with_reducible rfl
            rotate_left
            ·simp only [Act.put, List.setIfInBounds_toArray, List.set_cons_zero, List.set_cons_succ, i64_w, i32_w]
             rfl
            refine pure_ (i := 9) (N := some 35) (v := ?_) (a' := ?_) #[T,T,F,T,T,F,T,T,T,T,F,F,F,F] rfl rfl (any_of HT_.out (by kernel_rfl)) (fun _ _ _ h => h) (Or.inl ⟨by rfl, ?_⟩) ?_ ?_
            rotate_left
            ·intro w'
             go_simp
             with_reducible rfl
            rotate_left
            ·simp only [Act.put, List.setIfInBounds_toArray, List.set_cons_zero, List.set_cons_succ, i64_w, i32_w]
             rfl
            refine one_ (i := 2) (N := some 28) #[T,T,T,T,T,F,T,T,T,T,F,F,F,F] rfl rfl (one_of HT_.out (by kernel_rfl)) (by decide) (fun K hK => ?_)
            refine goes_ Tryd.func30 (by kernel_rfl) rfl #[.slice A46 (l2.drop 12).length (c2 - 12)] (by rfl) rfl rfl (by (try simp only [List.map_toArray, List.map_cons, List.map_nil]); first | done | (rw [show (l2.drop 12).length = (l2.length - 12) from List.length_drop] <;> rfl) | rfl | (simp only [List.length_drop, List.length_take]; rfl)) ?_
            with_reducible refine (seal_read.calls k _ _ (l2.drop 12) t186 _ ?side1 ?side2 A9.out).mono ?_
            (case side1 => repeat (first | exact (Kd.C_below HR185.out HB.out) | exact HR185.out | (with_reducible refine Kd.C_alloc ?_ _) | (with_reducible refine Kd.C_drewN ?_ _) | (with_reducible refine Kd.C_drew ?_)))
            (case side2 => exact HC185.out)
            rintro e w' ⟨rfl, ⟨nd, rfl⟩⟩
            refine ⟨_, rfl, ?_⟩
            refine hK.out _ _ trivial (fun hHeld => ?_)
            clear hK K
            refine norm_ (a' := ?_) ?_ ?_
            rotate_left
            ·show Act.put _ (some 28) _ = _
             simp only [Act.put, List.setIfInBounds_toArray, List.set_cons_zero, List.set_cons_succ, i64_w, i32_w]
             rfl
            refine one_ (i := 5) (N := some 31) #[T,T,T,T,T,T,T,T,T,T,F,F,F,F] rfl rfl (one_of HT_.out (by kernel_rfl)) (by decide) (fun K hK => ?_)
            refine Kd.R_append_rows_step (Kd.int .u8) (w0 := w) w.heap.size (by rfl) (.const (.slice none 0 0)) (.tmp 30) 25 5 (.int .u8 0) 1 rfl Tryd.underlying25 info5 rfl (by decide) (by omega) (.slice none 0 0) ([] : List Int) (l2.take 12) _ _ _ (fun _ => True) (fun _ => False) rfl rfl ?aO ?aR (fun _ _ h => h) (fun _ h => h.elim) ?aF ?aB ?aS ?aL ?_
            (case aR => first | (simp only [← List.length_take]; repeat (first | exact (Kd.C_below HR187.out (by repeat (first | (with_reducible first | exact HB.out | apply kL | apply kM | apply kE) | exact HB.out))) | exact HR187.out | (with_reducible refine Kd.C_alloc ?_ _) | (with_reducible refine Kd.C_drewN ?_ _) | (with_reducible refine Kd.C_drew ?_)); done) | (rw [← show (l2.take 12).length = 12 from (by rw [List.length_take]; have h_ : (12 : Int) ≤ (l2.length : Int) := of_decide_eq_true (by first | (with_reducible assumption) | assumption); omega)]; repeat (first | exact (Kd.C_below HR187.out (by repeat (first | (with_reducible first | exact HB.out | apply kL | apply kM | apply kE) | exact HB.out))) | exact HR187.out | (with_reducible refine Kd.C_alloc ?_ _) | (with_reducible refine Kd.C_drewN ?_ _) | (with_reducible refine Kd.C_drew ?_)); done) | (repeat (first | exact (Kd.C_below HR187.out (by repeat (first | (with_reducible first | exact HB.out | apply kL | apply kM | apply kE) | exact HB.out))) | exact HR187.out | (with_reducible refine Kd.C_alloc ?_ _) | (with_reducible refine Kd.C_drewN ?_ _) | (with_reducible refine Kd.C_drew ?_))))
            (case aB => exact (by repeat (first | (with_reducible first | exact HB.out | apply kL | apply kM | apply kE) | exact HB.out)))
            (case aF => exact (fun _ _ => trivial))
            (case aO => exact ((Kd.R_nil _ _ _ _ (fun _ => True))))
            (case aS => exact (below_size (by repeat (first | (with_reducible first | exact HB.out | apply kL | apply kM | apply kE) | exact HB.out))))
            (case aL => have := LMc11.out; have hlx_ := (show (l2.take 12).length = 12 from (by rw [List.length_take]; have h_ : (12 : Int) ≤ (l2.length : Int) := of_decide_eq_true (by first | (with_reducible assumption) | assumption); omega)); omega)
            intro v189 w49 ho hb hg hat
            rw [← Ny188.out] at ho
            have n0_ := Aside0.mk (hb)
            have n1_ := Aside0.mk (ho)
            clear HB
            have HB := n0_
            have HO190 := n1_
            clear n0_ n1_
            clear ho hb hg hat
            refine hK.out _ _ trivial (fun hHeld => ?_)
            clear hK K
            refine norm_ (a' := ?_) ?_ ?_
            rotate_left
            ·show Act.put _ (some 31) _ = _
             simp only [Act.put, List.setIfInBounds_toArray, List.set_cons_zero, List.set_cons_succ, i64_w, i32_w]
             rfl
            refine one_ (i := 10) (N := some 36) #[T,T,T,T,T,T,T,T,T,T,T,F,F,F] rfl rfl (one_of HT_.out (by kernel_rfl)) (by decide) (fun K hK => ?_)
            refine Kd.R_append_rows_step (Kd.int .u8) (w0 := w) w.heap.size (by rfl) (.tmp 31) (.tmp 35) 25 5 (.int .u8 0) 1 rfl Tryd.underlying25 info5 rfl (by decide) (by omega) v189 y188 ((l2.take ((wrap64 (16 + (wrap64 (t184)))) : Int).toNat).drop 16) _ _ _ (fun _ => True) (fun _ => False) rfl rfl ?aO ?aR (fun _ _ h => h) (fun _ h => h.elim) ?aF ?aB ?aS ?aL ?_
            (case aR => first | (simp only [← List.length_take]; repeat (first | exact (Kd.C_below HR191.out HB.out) | exact HR191.out | (with_reducible refine Kd.C_alloc ?_ _) | (with_reducible refine Kd.C_drewN ?_ _) | (with_reducible refine Kd.C_drew ?_)); done) | (rw [← show ((l2.take ((wrap64 (16 + (wrap64 (t184)))) : Int).toNat).drop 16).length = ((wrap64 (16 + (wrap64 (t184)))).toNat - 16) from (by rw [List.length_drop, List.length_take]; have h_ : ((wrap64 (16 + (wrap64 (t184)))) : Int) ≤ (l2.length : Int) := of_decide_eq_true (by first | (with_reducible assumption) | assumption); omega)]; repeat (first | exact (Kd.C_below HR191.out HB.out) | exact HR191.out | (with_reducible refine Kd.C_alloc ?_ _) | (with_reducible refine Kd.C_drewN ?_ _) | (with_reducible refine Kd.C_drew ?_)); done) | (repeat (first | exact (Kd.C_below HR191.out HB.out) | exact HR191.out | (with_reducible refine Kd.C_alloc ?_ _) | (with_reducible refine Kd.C_drewN ?_ _) | (with_reducible refine Kd.C_drew ?_))))
            (case aB => exact (by repeat (first | (with_reducible first | exact HB.out | apply kL | apply kM | apply kE) | exact HB.out)))
            (case aF => exact (fun _ _ => trivial))
            (case aO => exact (by (with_reducible repeat (first | apply Kd.R_alloc | apply Kd.R_drewN | apply Kd.R_drew)); exact HO190.out))
            (case aS => exact (below_size (by repeat (first | (with_reducible first | exact HB.out | apply kL | apply kM | apply kE) | exact HB.out))))
            (case aL => have := LMc14.out; have hlx_ := (show ((l2.take ((wrap64 (16 + (wrap64 (t184)))) : Int).toNat).drop 16).length = ((wrap64 (16 + (wrap64 (t184)))).toNat - 16) from (by rw [List.length_drop, List.length_take]; have h_ : ((wrap64 (16 + (wrap64 (t184)))) : Int) ≤ (l2.length : Int) := of_decide_eq_true (by first | (with_reducible assumption) | assumption); omega)); omega)
            intro v193 w50 ho hb hg hat
            rw [← Ny192.out] at ho
            have n0_ := Aside0.mk (hb)
            have n1_ := Aside0.mk (ho)
            clear HB
            clear HO190
            have HB := n0_
            have HO194 := n1_
            clear n0_ n1_
            clear ho hb hg hat
            obtain ⟨Ao51, co51, eo51⟩ := Kd.R_slice HO194.out
            (first | subst eo51 | (injection eo51 with f1_ f2_ f3_; have f4_ := f1_.symm; have f5_ := f3_.symm; clear f1_ f2_ f3_; subst f4_; subst f5_))
            refine hK.out _ _ trivial (fun hHeld => ?_)
            clear hK K
            refine norm_ (a' := ?_) ?_ ?_
            rotate_left
            ·show Act.put _ (some 36) _ = _
             simp only [Act.put, List.setIfInBounds_toArray, List.set_cons_zero, List.set_cons_succ, i64_w, i32_w]
             rfl
            refine one_ (i := 11) (N := some 37) #[T,T,T,T,T,T,T,T,T,T,T,T,F,F] rfl rfl (one_of HT_.out (by kernel_rfl)) (by decide) (fun K hK => ?_)
            refine goes_ Tryd.func29 (by kernel_rfl) rfl #[.slice Ao51 y192.length co51] (by rfl) rfl rfl (by (try simp only [List.map_toArray, List.map_cons, List.map_nil]); first | done | rfl | (simp only [List.length_drop, List.length_take]; rfl)) ?_
            with_reducible refine (seal_Sum.calls k _ _ y192 t195 _ ?side1 ?side2 ?side3 A15.out).mono ?_
            (case side1 => repeat (first | exact (Kd.R_reads' HO194.out).2.2 | (with_reducible refine Kd.C_alloc ?_ _) | (with_reducible refine Kd.C_drewN ?_ _) | (with_reducible refine Kd.C_drew ?_)))
            (case side2 => exact (Kd.R_reads' HO194.out).2.1)
            (case side3 => repeat (first | exact (Kd.C_below HRG0.out HB.out) | exact HRG0.out | (with_reducible refine Kd.C_alloc ?_ _) | (with_reducible refine Kd.C_drewN ?_ _) | (with_reducible refine Kd.C_drew ?_)))
            rintro e w' ⟨rfl, ⟨nd, rfl⟩⟩
            refine ⟨_, rfl, ?_⟩
            refine hK.out _ _ trivial (fun hHeld => ?_)
            clear hK K
            refine norm_ (a' := ?_) ?_ ?_
            rotate_left
            ·show Act.put _ (some 37) _ = _
             simp only [Act.put, List.setIfInBounds_toArray, List.set_cons_zero, List.set_cons_succ, i64_w, i32_w]
             rfl
            refine pure_ (i := 12) (N := some 38) (v := ?_) (a' := ?_) #[T,T,T,T,T,T,T,T,T,T,T,T,T,F] rfl rfl (any_of HT_.out (by kernel_rfl)) (fun _ _ _ h => h) (Or.inl ⟨by rfl, ?_⟩) ?_ ?_
            rotate_left
            ·intro w'
             go_simp
             with_reducible rfl
            rotate_left
            ·simp only [Act.put, List.setIfInBounds_toArray, List.set_cons_zero, List.set_cons_succ, i64_w, i32_w]
             rfl
            refine pure_ (i := 13) (N := some 25) (v := ?_) (a' := ?_) #[T,T,T,T,T,T,T,T,T,T,T,T,T,T] rfl rfl (any_of HT_.out (by kernel_rfl)) (fun _ _ _ h => h) (Or.inl ⟨by rfl, ?_⟩) ?_ ?_
            rotate_left
            ·intro w'
             go_simp
             with_reducible rfl
            rotate_left
            ·simp only [Act.put, List.setIfInBounds_toArray, List.set_cons_zero, List.set_cons_succ, i64_w, i32_w]
             rfl
            refine done_ (done_of HT_.out (by kernel_rfl)) ?_
            obtain ⟨i052, hi052, _, hsz52, _⟩ := info_parts info5
            obtain ⟨A52, hcut52, hA52, hC52⟩ := print_drop_of (P := Tryd.prog) (Value.int .u8) 0 25 5 .i64 Tryd.underlying25 hi052 hsz52 A2 c2 l2 4 (by omega) (of_decide_eq_true (by first | (with_reducible assumption) | assumption)) HC2.out
            have HR196 := Aside0.mk (Kd.C_of_reads (h1 := fun _ => rfl) (hA52 _ (Kd.reads_of_C HR2.out)))
            have HC196 := Aside0.mk hC52
            clear hA52 hC52 hi052 hsz52
            try go_wp2_with (first | ((with_reducible refine gate_callee (f := 30) rfl ?_); refine goesL_ (some 42) rfl rfl Tryd.func30 (by kernel_rfl) rfl #[.slice A52 (l2.drop 4).length (c2 - 4)] rfl (by (try simp only [List.map_toArray, List.map_cons, List.map_nil]); first | done | (rw [show (l2.drop 4).length = (l2.length - 4) from List.length_drop] <;> rfl) | rfl | (simp only [List.length_drop, List.length_take]; rfl)) ?_; (with_reducible refine (seal_read.calls k _ _ (l2.drop 4) t197 _ ?side1 ?side2 A18.out).mono ?_); (case side1 => repeat (first | exact (Kd.C_below HR196.out (by repeat (first | (with_reducible first | exact HB.out | apply kL | apply kM | apply kE) | exact HB.out))) | exact HR196.out | (with_reducible refine Kd.C_alloc ?_ _) | (with_reducible refine Kd.C_drewN ?_ _) | (with_reducible refine Kd.C_drew ?_))); (case side2 => exact HC196.out); rintro e w' ⟨rfl, ⟨nd, rfl⟩⟩; refine ⟨_, rfl, ?_⟩))
            go_ret3
            exact ⟨_, by first | rfl | (simp [errW_none, errW_some] <;> rfl) | (simp [*, errW_none, errW_some] <;> rfl), by first | exact Kd.R_nil _ _ _ _ _ | exact Kd.N_nil _ _ _ _ _ | exact Kd.V_nil _ _ _ _ _ | exact Kd.Q_nil _ _ _ _ _ | exact Kd.S_nil _ _ _ _ _, by repeat (first | (with_reducible first | exact HB.out | apply kL | apply kM | apply kE) | exact HB.out)⟩
          ·rw [if_neg c17] at H
           exact absurd H (by simp)
         ·rw [if_neg c16] at H
          have c16b0 : (t186 == t195) = false := beq_eq_false_iff_ne.mpr c16
          have c16b1 : (t186 != t195) = true := bne_iff_ne.mpr c16
          simp only [Option.some.injEq, Prod.mk.injEq] at H
          obtain ⟨rfl, rfl, rfl⟩ := H
          go_enter Tryd.func17, Tryd.ntmps17
          try go_wp2_with (first | ((with_reducible refine gate_callee (f := 30) rfl ?_); refine goesL_ (some 14) rfl rfl Tryd.func30 (by kernel_rfl) rfl #[.slice A2 l2.length c2] rfl (by (try simp only [List.map_toArray, List.map_cons, List.map_nil]); first | done | rfl | (simp only [List.length_drop, List.length_take]; rfl)) ?_; (with_reducible refine (seal_read.calls k _ _ l2 t184 _ ?side1 ?side2 A5.out).mono ?_); (case side1 => repeat (first | exact HR2.out | exact (Kd.C_below HR2.out HB.out) | (with_reducible refine Kd.C_alloc ?_ _) | (with_reducible refine Kd.C_drewN ?_ _) | (with_reducible refine Kd.C_drew ?_))); (case side2 => exact HC2.out); rintro e w' ⟨rfl, ⟨nd, rfl⟩⟩; refine ⟨_, rfl, ?_⟩))
          obtain ⟨i054, hi054, _, hsz54, _⟩ := info_parts info5
          obtain ⟨A54, hcut54, hA54, hC54⟩ := print_drop_of (P := Tryd.prog) (Value.int .u8) 0 25 5 .i64 Tryd.underlying25 hi054 hsz54 A2 c2 l2 12 (by omega) (of_decide_eq_true (by first | (with_reducible assumption) | assumption)) HC2.out
          have HR185 := Aside0.mk (Kd.C_of_reads (h1 := fun _ => rfl) (hA54 _ (Kd.reads_of_C HR2.out)))
          have HC185 := Aside0.mk hC54
          clear hA54 hC54 hi054 hsz54
          obtain ⟨i055, hi055, _, hsz55, _⟩ := info_parts info5
          obtain ⟨hcut55, hA55, hC55⟩ := print_take_of (P := Tryd.prog) (Value.int .u8) 0 25 5 .i64 Tryd.underlying25 hi055 hsz55 A2 c2 l2 12 (by omega) (of_decide_eq_true (by first | (with_reducible assumption) | assumption)) HC2.out
          have HR187 := Aside0.mk (Kd.C_of_reads (h1 := fun _ => rfl) (hA55 _ (Kd.reads_of_C HR2.out)))
          have HC187 := Aside0.mk hC55
          clear hA55 hC55 hi055 hsz55
          obtain ⟨i056, hi056, _, hsz56, _⟩ := info_parts info5
          obtain ⟨A56, hcut56, hA56, hC56⟩ := print_mid_of (P := Tryd.prog) (Value.int .u8) 0 25 5 .i64 .i64 Tryd.underlying25 hi056 hsz56 A2 c2 l2 16 (wrap64 (16 + (wrap64 (t184)))) (by omega) (by first | omega | exact of_decide_eq_true (by first | (with_reducible assumption) | assumption)) (of_decide_eq_true (by first | (with_reducible assumption) | assumption)) HC2.out
          have HR191 := Aside0.mk (Kd.C_of_reads (h1 := fun _ => rfl) (hA56 _ (Kd.reads_of_C HR2.out)))
          have HC191 := Aside0.mk hC56
          clear hA56 hC56 hi056 hsz56
          refine start_ (n := 14) (S := fun w' => True) (ds := []) #[F,F,F,F,F,F,F,F,F,F,F,F,F,F] (by kernel_rfl) rfl rfl trivial (fun hHeld => ?_); refine with_tabW seal_Open.tab8 seal_Open.bits8 (fun HT_ HW_ => ?_)
          (generalize hq_ : World.drew _ = w53 at HR185 HR187 HR191 hHeld ⊢; have n0_ : Aside0 (Below w.heap.size w w53) := ⟨by rw [← hq_]; repeat (first | exact HB.out | apply kE | apply kM)⟩; clear HB hq_; have HB := n0_; clear n0_)
          refine pure_ (i := 0) (N := some 26) (v := ?_) (a' := ?_) #[T,F,F,F,F,F,F,F,F,F,F,F,F,F] rfl rfl (any_of HT_.out (by kernel_rfl)) (fun _ _ _ h => h) (Or.inl ⟨by rfl, ?_⟩) ?_ ?_
          rotate_left
          ·intro w'
           go_simp
           with_reducible rfl
          rotate_left
          ·simp only [Act.put, List.setIfInBounds_toArray, List.set_cons_zero, List.set_cons_succ, i64_w, i32_w]
           rfl
          refine pure_ (i := 1) (N := some 27) (v := ?_) (a' := ?_) #[T,T,F,F,F,F,F,F,F,F,F,F,F,F] rfl rfl (any_of HT_.out (by kernel_rfl)) (fun _ _ _ h => h) (Or.inl ⟨by rfl, ?_⟩) ?_ ?_
          rotate_left
          ·intro w'
           go_simp
           with_reducible rfl
          rotate_left
          ·simp only [Act.put, List.setIfInBounds_toArray, List.set_cons_zero, List.set_cons_succ, i64_w, i32_w]
           rfl
          refine pure_ (i := 3) (N := some 29) (v := ?_) (a' := ?_) #[T,T,F,T,F,F,F,F,F,F,F,F,F,F] rfl rfl (any_of HT_.out (by kernel_rfl)) (fun _ _ _ h => h) (Or.inl ⟨by rfl, ?_⟩) ?_ ?_
          rotate_left
          ·intro w'
           go_simp
           with_reducible rfl
          rotate_left
          ·simp only [Act.put, List.setIfInBounds_toArray, List.set_cons_zero, List.set_cons_succ, i64_w, i32_w]
           rfl
          refine pure_ (i := 4) (N := some 30) (v := ?_) (a' := ?_) #[T,T,F,T,T,F,F,F,F,F,F,F,F,F] rfl rfl (any_of HT_.out (by kernel_rfl)) (fun _ _ _ h => h) (Or.inl ⟨by rfl, ?_⟩) ?_ ?_
          rotate_left
          ·intro w'
           go_simp
           with_reducible rfl
          rotate_left
          ·simp only [Act.put, List.setIfInBounds_toArray, List.set_cons_zero, List.set_cons_succ, i64_w, i32_w]
           rfl
          refine pure_ (i := 6) (N := some 32) (v := ?_) (a' := ?_) #[T,T,F,T,T,F,T,F,F,F,F,F,F,F] rfl rfl (any_of HT_.out (by kernel_rfl)) (fun _ _ _ h => h) (Or.inl ⟨by rfl, ?_⟩) ?_ ?_
          rotate_left
          ·intro w'
           go_simp
           with_reducible rfl
          rotate_left
          ·simp only [Act.put, List.setIfInBounds_toArray, List.set_cons_zero, List.set_cons_succ, i64_w, i32_w]
           rfl
          refine pure_ (i := 7) (N := some 33) (v := ?_) (a' := ?_) #[T,T,F,T,T,F,T,T,F,F,F,F,F,F] rfl rfl (any_of HT_.out (by kernel_rfl)) (fun _ _ _ h => h) (Or.inl ⟨by rfl, ?_⟩) ?_ ?_
          rotate_left
          ·intro w'
           go_simp
           with_reducible rfl
          rotate_left
          ·simp only [Act.put, List.setIfInBounds_toArray, List.set_cons_zero, List.set_cons_succ, i64_w, i32_w]
           rfl
          refine pure_ (i := 8) (N := some 34) (v := ?_) (a' := ?_) #[T,T,F,T,T,F,T,T,T,F,F,F,F,F] rfl rfl (any_of HT_.out (by kernel_rfl)) (fun _ _ _ h => h) (Or.inl ⟨by rfl, ?_⟩) ?_ ?_
          rotate_left
          ·intro w'
           go_simp
           with_reducible rfl
          rotate_left
          ·simp only [Act.put, List.setIfInBounds_toArray, List.set_cons_zero, List.set_cons_succ, i64_w, i32_w]
           rfl
          refine pure_ (i := 9) (N := some 35) (v := ?_) (a' := ?_) #[T,T,F,T,T,F,T,T,T,T,F,F,F,F] rfl rfl (any_of HT_.out (by kernel_rfl)) (fun _ _ _ h => h) (Or.inl ⟨by rfl, ?_⟩) ?_ ?_
          rotate_left
          ·intro w'
           go_simp
           with_reducible rfl
          rotate_left
          ·simp only [Act.put, List.setIfInBounds_toArray, List.set_cons_zero, List.set_cons_succ, i64_w, i32_w]
           rfl
          refine one_ (i := 2) (N := some 28) #[T,T,T,T,T,F,T,T,T,T,F,F,F,F] rfl rfl (one_of HT_.out (by kernel_rfl)) (by decide) (fun K hK => ?_)
          refine goes_ Tryd.func30 (by kernel_rfl) rfl #[.slice A54 (l2.drop 12).length (c2 - 12)] (by rfl) rfl rfl (by (try simp only [List.map_toArray, List.map_cons, List.map_nil]); first | done | (rw [show (l2.drop 12).length = (l2.length - 12) from List.length_drop] <;> rfl) | rfl | (simp only [List.length_drop, List.length_take]; rfl)) ?_
          with_reducible refine (seal_read.calls k _ _ (l2.drop 12) t186 _ ?side1 ?side2 A9.out).mono ?_
          (case side1 => repeat (first | exact (Kd.C_below HR185.out HB.out) | exact HR185.out | (with_reducible refine Kd.C_alloc ?_ _) | (with_reducible refine Kd.C_drewN ?_ _) | (with_reducible refine Kd.C_drew ?_)))
          (case side2 => exact HC185.out)
          rintro e w' ⟨rfl, ⟨nd, rfl⟩⟩
          refine ⟨_, rfl, ?_⟩
          refine hK.out _ _ trivial (fun hHeld => ?_)
          clear hK K
          refine norm_ (a' := ?_) ?_ ?_
          rotate_left
          ·show Act.put _ (some 28) _ = _
           simp only [Act.put, List.setIfInBounds_toArray, List.set_cons_zero, List.set_cons_succ, i64_w, i32_w]
           rfl
          refine one_ (i := 5) (N := some 31) #[T,T,T,T,T,T,T,T,T,T,F,F,F,F] rfl rfl (one_of HT_.out (by kernel_rfl)) (by decide) (fun K hK => ?_)
          refine Kd.R_append_rows_step (Kd.int .u8) (w0 := w) w.heap.size (by rfl) (.const (.slice none 0 0)) (.tmp 30) 25 5 (.int .u8 0) 1 rfl Tryd.underlying25 info5 rfl (by decide) (by omega) (.slice none 0 0) ([] : List Int) (l2.take 12) _ _ _ (fun _ => True) (fun _ => False) rfl rfl ?aO ?aR (fun _ _ h => h) (fun _ h => h.elim) ?aF ?aB ?aS ?aL ?_
          (case aR => first | (simp only [← List.length_take]; repeat (first | exact (Kd.C_below HR187.out (by repeat (first | (with_reducible first | exact HB.out | apply kL | apply kM | apply kE) | exact HB.out))) | exact HR187.out | (with_reducible refine Kd.C_alloc ?_ _) | (with_reducible refine Kd.C_drewN ?_ _) | (with_reducible refine Kd.C_drew ?_)); done) | (rw [← show (l2.take 12).length = 12 from (by rw [List.length_take]; have h_ : (12 : Int) ≤ (l2.length : Int) := of_decide_eq_true (by first | (with_reducible assumption) | assumption); omega)]; repeat (first | exact (Kd.C_below HR187.out (by repeat (first | (with_reducible first | exact HB.out | apply kL | apply kM | apply kE) | exact HB.out))) | exact HR187.out | (with_reducible refine Kd.C_alloc ?_ _) | (with_reducible refine Kd.C_drewN ?_ _) | (with_reducible refine Kd.C_drew ?_)); done) | (repeat (first | exact (Kd.C_below HR187.out (by repeat (first | (with_reducible first | exact HB.out | apply kL | apply kM | apply kE) | exact HB.out))) | exact HR187.out | (with_reducible refine Kd.C_alloc ?_ _) | (with_reducible refine Kd.C_drewN ?_ _) | (with_reducible refine Kd.C_drew ?_))))
          (case aB => exact (by repeat (first | (with_reducible first | exact HB.out | apply kL | apply kM | apply kE) | exact HB.out)))
          (case aF => exact (fun _ _ => trivial))
          (case aO => exact ((Kd.R_nil _ _ _ _ (fun _ => True))))
          (case aS => exact (below_size (by repeat (first | (with_reducible first | exact HB.out | apply kL | apply kM | apply kE) | exact HB.out))))
          (case aL => have := LMc11.out; have hlx_ := (show (l2.take 12).length = 12 from (by rw [List.length_take]; have h_ : (12 : Int) ≤ (l2.length : Int) := of_decide_eq_true (by first | (with_reducible assumption) | assumption); omega)); omega)
          intro v189 w57 ho hb hg hat
          rw [← Ny188.out] at ho
          have n0_ := Aside0.mk (hb)
          have n1_ := Aside0.mk (ho)
          clear HB
          have HB := n0_
          have HO190 := n1_
          clear n0_ n1_
          clear ho hb hg hat
          refine hK.out _ _ trivial (fun hHeld => ?_)
          clear hK K
          refine norm_ (a' := ?_) ?_ ?_
          rotate_left
          ·show Act.put _ (some 31) _ = _
           simp only [Act.put, List.setIfInBounds_toArray, List.set_cons_zero, List.set_cons_succ, i64_w, i32_w]
           rfl
          refine one_ (i := 10) (N := some 36) #[T,T,T,T,T,T,T,T,T,T,T,F,F,F] rfl rfl (one_of HT_.out (by kernel_rfl)) (by decide) (fun K hK => ?_)
          refine Kd.R_append_rows_step (Kd.int .u8) (w0 := w) w.heap.size (by rfl) (.tmp 31) (.tmp 35) 25 5 (.int .u8 0) 1 rfl Tryd.underlying25 info5 rfl (by decide) (by omega) v189 y188 ((l2.take ((wrap64 (16 + (wrap64 (t184)))) : Int).toNat).drop 16) _ _ _ (fun _ => True) (fun _ => False) rfl rfl ?aO ?aR (fun _ _ h => h) (fun _ h => h.elim) ?aF ?aB ?aS ?aL ?_
          (case aR => first | (simp only [← List.length_take]; repeat (first | exact (Kd.C_below HR191.out HB.out) | exact HR191.out | (with_reducible refine Kd.C_alloc ?_ _) | (with_reducible refine Kd.C_drewN ?_ _) | (with_reducible refine Kd.C_drew ?_)); done) | (rw [← show ((l2.take ((wrap64 (16 + (wrap64 (t184)))) : Int).toNat).drop 16).length = ((wrap64 (16 + (wrap64 (t184)))).toNat - 16) from (by rw [List.length_drop, List.length_take]; have h_ : ((wrap64 (16 + (wrap64 (t184)))) : Int) ≤ (l2.length : Int) := of_decide_eq_true (by first | (with_reducible assumption) | assumption); omega)]; repeat (first | exact (Kd.C_below HR191.out HB.out) | exact HR191.out | (with_reducible refine Kd.C_alloc ?_ _) | (with_reducible refine Kd.C_drewN ?_ _) | (with_reducible refine Kd.C_drew ?_)); done) | (repeat (first | exact (Kd.C_below HR191.out HB.out) | exact HR191.out | (with_reducible refine Kd.C_alloc ?_ _) | (with_reducible refine Kd.C_drewN ?_ _) | (with_reducible refine Kd.C_drew ?_))))
          (case aB => exact (by repeat (first | (with_reducible first | exact HB.out | apply kL | apply kM | apply kE) | exact HB.out)))
          (case aF => exact (fun _ _ => trivial))
          (case aO => exact (by (with_reducible repeat (first | apply Kd.R_alloc | apply Kd.R_drewN | apply Kd.R_drew)); exact HO190.out))
          (case aS => exact (below_size (by repeat (first | (with_reducible first | exact HB.out | apply kL | apply kM | apply kE) | exact HB.out))))
          (case aL => have := LMc14.out; have hlx_ := (show ((l2.take ((wrap64 (16 + (wrap64 (t184)))) : Int).toNat).drop 16).length = ((wrap64 (16 + (wrap64 (t184)))).toNat - 16) from (by rw [List.length_drop, List.length_take]; have h_ : ((wrap64 (16 + (wrap64 (t184)))) : Int) ≤ (l2.length : Int) := of_decide_eq_true (by first | (with_reducible assumption) | assumption); omega)); omega)
          intro v193 w58 ho hb hg hat
          rw [← Ny192.out] at ho
          have n0_ := Aside0.mk (hb)
          have n1_ := Aside0.mk (ho)
          clear HB
          clear HO190
          have HB := n0_
          have HO194 := n1_
          clear n0_ n1_
          clear ho hb hg hat
          obtain ⟨Ao59, co59, eo59⟩ := Kd.R_slice HO194.out
          (first | subst eo59 | (injection eo59 with f1_ f2_ f3_; have f4_ := f1_.symm; have f5_ := f3_.symm; clear f1_ f2_ f3_; subst f4_; subst f5_))
          refine hK.out _ _ trivial (fun hHeld => ?_)
          clear hK K
          refine norm_ (a' := ?_) ?_ ?_
          rotate_left
          ·show Act.put _ (some 36) _ = _
           simp only [Act.put, List.setIfInBounds_toArray, List.set_cons_zero, List.set_cons_succ, i64_w, i32_w]
           rfl
          refine one_ (i := 11) (N := some 37) #[T,T,T,T,T,T,T,T,T,T,T,T,F,F] rfl rfl (one_of HT_.out (by kernel_rfl)) (by decide) (fun K hK => ?_)
          refine goes_ Tryd.func29 (by kernel_rfl) rfl #[.slice Ao59 y192.length co59] (by rfl) rfl rfl (by (try simp only [List.map_toArray, List.map_cons, List.map_nil]); first | done | rfl | (simp only [List.length_drop, List.length_take]; rfl)) ?_
          with_reducible refine (seal_Sum.calls k _ _ y192 t195 _ ?side1 ?side2 ?side3 A15.out).mono ?_
          (case side1 => repeat (first | exact (Kd.R_reads' HO194.out).2.2 | (with_reducible refine Kd.C_alloc ?_ _) | (with_reducible refine Kd.C_drewN ?_ _) | (with_reducible refine Kd.C_drew ?_)))
          (case side2 => exact (Kd.R_reads' HO194.out).2.1)
          (case side3 => repeat (first | exact (Kd.C_below HRG0.out HB.out) | exact HRG0.out | (with_reducible refine Kd.C_alloc ?_ _) | (with_reducible refine Kd.C_drewN ?_ _) | (with_reducible refine Kd.C_drew ?_)))
          rintro e w' ⟨rfl, ⟨nd, rfl⟩⟩
          refine ⟨_, rfl, ?_⟩
          refine hK.out _ _ trivial (fun hHeld => ?_)
          clear hK K
          refine norm_ (a' := ?_) ?_ ?_
          rotate_left
          ·show Act.put _ (some 37) _ = _
           simp only [Act.put, List.setIfInBounds_toArray, List.set_cons_zero, List.set_cons_succ, i64_w, i32_w]
           rfl
          refine pure_ (i := 12) (N := some 38) (v := ?_) (a' := ?_) #[T,T,T,T,T,T,T,T,T,T,T,T,T,F] rfl rfl (any_of HT_.out (by kernel_rfl)) (fun _ _ _ h => h) (Or.inl ⟨by rfl, ?_⟩) ?_ ?_
          rotate_left
          ·intro w'
           go_simp
           with_reducible rfl
          rotate_left
          ·simp only [Act.put, List.setIfInBounds_toArray, List.set_cons_zero, List.set_cons_succ, i64_w, i32_w]
           rfl
          refine pure_ (i := 13) (N := some 25) (v := ?_) (a' := ?_) #[T,T,T,T,T,T,T,T,T,T,T,T,T,T] rfl rfl (any_of HT_.out (by kernel_rfl)) (fun _ _ _ h => h) (Or.inl ⟨by rfl, ?_⟩) ?_ ?_
          rotate_left
          ·intro w'
           go_simp
           with_reducible rfl
          rotate_left
          ·simp only [Act.put, List.setIfInBounds_toArray, List.set_cons_zero, List.set_cons_succ, i64_w, i32_w]
           rfl
          refine done_ (done_of HT_.out (by kernel_rfl)) ?_
          try go_wp2
          go_ret3
          exact ⟨_, by first | rfl | (simp [errW_none, errW_some] <;> rfl) | (simp [*, errW_none, errW_some] <;> rfl), by first | exact Kd.R_nil _ _ _ _ _ | exact Kd.N_nil _ _ _ _ _ | exact Kd.V_nil _ _ _ _ _ | exact Kd.Q_nil _ _ _ _ _ | exact Kd.S_nil _ _ _ _ _, by repeat (first | (with_reducible first | exact HB.out | apply kL | apply kM | apply kE) | exact HB.out)⟩
        ·rw [if_neg c14] at H
         exact absurd H (by simp)
       ·rw [if_neg c13] at H
        exact absurd H (by simp)
      ·rw [if_neg c12] at H
       exact absurd H (by simp)
     ·rw [if_neg c11] at H
      exact absurd H (by simp)
    ·rw [if_neg c8] at H
     exact absurd H (by simp)

end Go.Proofs.YtlbfmpjkdoecbaaDoor.PA
