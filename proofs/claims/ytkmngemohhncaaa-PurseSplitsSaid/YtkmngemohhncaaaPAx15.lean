-- printed by this workplace: wip/patchprint.py over the kit's print
import Derived.Test.YtkmngemohhncaaaPAx0
import Derived.Test.YtkmngemohhncaaaPAx1
import Derived.Test.YtkmngemohhncaaaPAx8
import Derived.Test.YtkmngemohhncaaaPAx12
import Derived.Test.YtkmngemohhncaaaPAx13
import Derived.Test.YtkmngemohhncaaaPAx14
namespace Go.Proofs.Ytkmngemohhncaaa.PA
open Go.RowKit Go.Proofs.YtkmngemohhncaaaW.PrintWords Go.Proofs.YtkmngemohhncaaaW.PrintLast Go.Proofs.YtkmngemohhncaaaW.PrintMore
attribute [local go_sem] max2_int min2_int max_two min_two max_three min_three max_four min_four   -- for this text's walks alone
set_option linter.unusedVariables false
set_option linter.unusedSimpArgs false

/-! ### paybooklaw03_PurseAdds: function 6 -/
mutual
def paybooklaw03_PurseAdds.j0 : Nat → Int → Int → Int → Int → Int → Int → Bool → Option (Bool)
 | 0, _, _, _, _, _, _, _ => none
 | k + 1, x0, x1, x5, x6, x7, x8, x9 => if x9 = true then ((paybooklaw03_right.f (wrap64 (x0 + x1))).bind fun t153 => (paybooklaw03_PurseAdds.j1 k x0 x1 x5 x6 x7 x8 x9 t153)) else (paybooklaw03_PurseAdds.j1 k x0 x1 x5 x6 x7 x8 x9 false)
def paybooklaw03_PurseAdds.j1 : Nat → Int → Int → Int → Int → Int → Int → Bool → Bool → Option (Bool)
 | 0, _, _, _, _, _, _, _, _ => none
 | k + 1, x0, x1, x5, x6, x7, x8, x9, x10 => if x9 = true then ((paybooklaw03_right.f (wrap64 (x0 - x1))).bind fun t154 => ((paybooklaw03_awake.f k).bind fun t155 => (if t155 = true then ((purse_Right.f x0).bind fun t156 => ((paybooklaw03_right.f x0).bind fun t157 => (if (t156 == t157) = true then (if ((x6 == 0) == x10) = true then (if x10 = true then (if ((x8 == 0) == t154) = true then (if t154 = true then (if x5 = (wrap64 (x0 + x1)) then (if x7 = (wrap64 (x0 - x1)) then (some true) else (some false)) else (some false)) else (if x8 = 9 then (if x5 = (wrap64 (x0 + x1)) then (some (x7 == 0)) else (some false)) else (some false))) else (some false)) else (if x6 = 9 then (if ((x8 == 0) == t154) = true then (if t154 = true then (if x7 = (wrap64 (x0 - x1)) then (if x5 = 0 then (some true) else (some false)) else (some false)) else (if x8 = 9 then (if x5 = 0 then (some (x7 == 0)) else (some false)) else (some false))) else (some false)) else (some false))) else (some false)) else (some false)))) else (some false)))) else ((paybooklaw03_awake.f k).bind fun t158 => (if t158 = true then ((purse_Right.f x0).bind fun t159 => ((paybooklaw03_right.f x0).bind fun t160 => (if (t159 == t160) = true then (if ((x6 == 0) == x10) = true then (if x10 = true then (if ((x8 == 0) == false) = true then (if x8 = 9 then (if x5 = (wrap64 (x0 + x1)) then (some (x7 == 0)) else (some false)) else (some false)) else (some false)) else (if x6 = 9 then (if ((x8 == 0) == false) = true then (if x8 = 9 then (if x5 = 0 then (some (x7 == 0)) else (some false)) else (some false)) else (some false)) else (some false))) else (some false)) else (some false)))) else (some false)))
end
def paybooklaw03_PurseAdds.f (k : Nat) (a0 : Int) (a1 : Int) : Option (Bool) := (purse_Add.f a0 a1).bind fun bt147 => ((purse_Less.f a0 a1).bind fun bt149 => ((paybooklaw03_right.f a0).bind fun t151 => (if t151 = true then ((paybooklaw03_right.f a1).bind fun t152 => (paybooklaw03_PurseAdds.j0 k a0 a1 bt147.1 bt147.2 bt149.1 bt149.2 t152)) else (paybooklaw03_PurseAdds.j0 k a0 a1 bt147.1 bt147.2 bt149.1 bt149.2 false))))
theorem paybooklaw03_PurseAdds.mono_l : ∀ k, (∀ y0 y1 y2 y3 y4 y5 y6, LeO (paybooklaw03_PurseAdds.j0 k y0 y1 y2 y3 y4 y5 y6) (paybooklaw03_PurseAdds.j0 (k + 1) y0 y1 y2 y3 y4 y5 y6)) ∧ (∀ y0 y1 y2 y3 y4 y5 y6 y7, LeO (paybooklaw03_PurseAdds.j1 k y0 y1 y2 y3 y4 y5 y6 y7) (paybooklaw03_PurseAdds.j1 (k + 1) y0 y1 y2 y3 y4 y5 y6 y7))
 | 0 => ⟨fun _ _ _ _ _ _ _ r h => by simp [paybooklaw03_PurseAdds.j0] at h, fun _ _ _ _ _ _ _ _ r h => by simp [paybooklaw03_PurseAdds.j1] at h⟩
 | k + 1 => by
  obtain ⟨ih0, ih1⟩ := paybooklaw03_PurseAdds.mono_l k
  refine ⟨?_, ?_⟩
  ·intro y0 y1 y2 y3 y4 y5 y6
   unfold paybooklaw03_PurseAdds.j0
   repeat' first
   | (with_reducible exact ih0 _ _ _ _ _ _ _)
   | (with_reducible exact ih1 _ _ _ _ _ _ _ _)
   | (with_reducible exact paybooklaw03_awake.mono _)
   | (with_reducible exact LeO.refl _)
   | (with_reducible exact LeO.none _)
   | (with_reducible refine LeO.ite ?_ ?_)
   | (with_reducible refine LeO.bind ?_ (fun _ => ?_))
   | exact ih0 _ _ _ _ _ _ _
   | exact ih1 _ _ _ _ _ _ _ _
   | exact paybooklaw03_awake.mono _
   | exact LeO.none _
   | refine LeO.ite ?_ ?_
   | refine LeO.bind ?_ (fun _ => ?_)
  ·intro y0 y1 y2 y3 y4 y5 y6 y7
   unfold paybooklaw03_PurseAdds.j1
   repeat' first
   | (with_reducible exact ih0 _ _ _ _ _ _ _)
   | (with_reducible exact ih1 _ _ _ _ _ _ _ _)
   | (with_reducible exact paybooklaw03_awake.mono _)
   | (with_reducible exact LeO.refl _)
   | (with_reducible exact LeO.none _)
   | (with_reducible refine LeO.ite ?_ ?_)
   | (with_reducible refine LeO.bind ?_ (fun _ => ?_))
   | exact ih0 _ _ _ _ _ _ _
   | exact ih1 _ _ _ _ _ _ _ _
   | exact paybooklaw03_awake.mono _
   | exact LeO.none _
   | refine LeO.ite ?_ ?_
   | refine LeO.bind ?_ (fun _ => ?_)
theorem paybooklaw03_PurseAdds.mono : ∀ a0 a1 k, LeO (paybooklaw03_PurseAdds.f k a0 a1) (paybooklaw03_PurseAdds.f (k + 1) a0 a1) := by
 intro a0 a1 k
 obtain ⟨ih0, ih1⟩ := paybooklaw03_PurseAdds.mono_l k
 unfold paybooklaw03_PurseAdds.f
 repeat' first
   | (with_reducible exact ih0 _ _ _ _ _ _ _)
   | (with_reducible exact ih1 _ _ _ _ _ _ _ _)
   | (with_reducible exact paybooklaw03_awake.mono _)
   | (with_reducible exact LeO.refl _)
   | (with_reducible exact LeO.none _)
   | (with_reducible refine LeO.ite ?_ ?_)
   | (with_reducible refine LeO.bind ?_ (fun _ => ?_))
   | exact ih0 _ _ _ _ _ _ _
   | exact ih1 _ _ _ _ _ _ _ _
   | exact paybooklaw03_awake.mono _
   | exact LeO.none _
   | refine LeO.ite ?_ ?_
   | refine LeO.bind ?_ (fun _ => ?_)
set_option maxHeartbeats 8000000 in
set_option maxRecDepth 100000 in
theorem paybooklaw03_PurseAdds.calls (k : Nat) (a0 : Int) (a1 : Int) (w : World) (h : paybooklaw03_PurseAdds.f k a0 a1 = some true) :
  Calls Try.prog 6 #[.int .i64 a0, .int .i64 a1] w fun e w' => e = .returned (.bool true) ∧ Drawn0 w w' := by
 have H : ((purse_Add.f a0 a1).bind fun bt147 => ((purse_Less.f a0 a1).bind fun bt149 => ((paybooklaw03_right.f a0).bind fun t151 => (if t151 = true then ((paybooklaw03_right.f a1).bind fun t152 => (paybooklaw03_PurseAdds.j0 k a0 a1 bt147.1 bt147.2 bt149.1 bt149.2 t152)) else (paybooklaw03_PurseAdds.j0 k a0 a1 bt147.1 bt147.2 bt149.1 bt149.2 false))))) = some true := h
 clear h
 replace H := Option.bind_eq_some_iff.mp H
 obtain ⟨⟨t147, t148⟩, A30, H⟩ := H
 replace H : ((purse_Less.f a0 a1).bind fun bt149 => ((paybooklaw03_right.f a0).bind fun t151 => (if t151 = true then ((paybooklaw03_right.f a1).bind fun t152 => (paybooklaw03_PurseAdds.j0 k a0 a1 t147 t148 bt149.1 bt149.2 t152)) else (paybooklaw03_PurseAdds.j0 k a0 a1 t147 t148 bt149.1 bt149.2 false)))) = some true := H
 have A3 := Aside0.mk A30
 clear A30
 replace H := Option.bind_eq_some_iff.mp H
 obtain ⟨⟨t149, t150⟩, A40, H⟩ := H
 replace H : ((paybooklaw03_right.f a0).bind fun t151 => (if t151 = true then ((paybooklaw03_right.f a1).bind fun t152 => (paybooklaw03_PurseAdds.j0 k a0 a1 t147 t148 t149 t150 t152)) else (paybooklaw03_PurseAdds.j0 k a0 a1 t147 t148 t149 t150 false))) = some true := H
 have A4 := Aside0.mk A40
 clear A40
 have HC5 := Aside0.mk H
 clear H
 go_enter Try.func6, Try.ntmps6
 go_upto_region 3 with (first | ((with_reducible refine gate_callee (f := 12) rfl ?_); refine goesL_ (some 15) rfl rfl Try.func12 (by kernel_rfl) rfl #[.int .i64 a0, .int .i64 a1] rfl (by (try simp only [List.map_toArray, List.map_cons, List.map_nil]); first | done | rfl | (simp only [List.length_drop, List.length_take]; rfl)) ?_; (with_reducible refine (purse_Add.calls a0 a1 t147 t148 _ A3.out).mono ?_); rintro e w' ⟨rfl, ⟨nd, rfl⟩⟩; refine ⟨_, rfl, ?_⟩) | ((with_reducible refine gate_callee (f := 13) rfl ?_); refine goesL_ (some 21) rfl rfl Try.func13 (by kernel_rfl) rfl #[.int .i64 a0, .int .i64 a1] rfl (by (try simp only [List.map_toArray, List.map_cons, List.map_nil]); first | done | rfl | (simp only [List.length_drop, List.length_take]; rfl)) ?_; (with_reducible refine (purse_Less.calls a0 a1 t149 t150 _ A4.out).mono ?_); rintro e w' ⟨rfl, ⟨nd, rfl⟩⟩; refine ⟨_, rfl, ?_⟩))
 (try simp only [Act.put, List.setIfInBounds_toArray, List.set_cons_zero, List.set_cons_succ])
 go_cut [9] (fun v9 wc => ∃ (kq : Nat) (x9_4 : Bool), v9 = .bool x9_4 ∧ Aside0 (paybooklaw03_PurseAdds.j0 kq a0 a1 t147 t148 t149 t150 x9_4 = some true) ∧ Aside0 (kq ≤ k) ∧ Drawn0 w wc)
 case first =>
  have H := HC5.out
  clear HC5
  replace H := Option.bind_eq_some_iff.mp H
  obtain ⟨t151, A60, H⟩ := H
  replace H : (if t151 = true then ((paybooklaw03_right.f a1).bind fun t152 => (paybooklaw03_PurseAdds.j0 k a0 a1 t147 t148 t149 t150 t152)) else (paybooklaw03_PurseAdds.j0 k a0 a1 t147 t148 t149 t150 false)) = some true := H
  have A6 := Aside0.mk A60
  clear A60
  by_cases c7 : t151 = true
  ·subst c7
   have H1 : ((paybooklaw03_right.f a1).bind fun t152 => (paybooklaw03_PurseAdds.j0 k a0 a1 t147 t148 t149 t150 t152)) = some true := by rw [if_pos rfl] at H; exact H
   clear H
   have H := H1
   clear H1
   replace H := Option.bind_eq_some_iff.mp H
   obtain ⟨t152, A80, H⟩ := H
   replace H : (paybooklaw03_PurseAdds.j0 k a0 a1 t147 t148 t149 t150 t152) = some true := H
   have A8 := Aside0.mk A80
   clear A80
   have H' := Aside0.mk H
   clear H
   go_wp2_with (first | ((with_reducible refine gate_callee (f := 14) rfl ?_); refine goesL_ (some 25) rfl rfl Try.func14 (by kernel_rfl) rfl #[.int .i64 a0] rfl (by (try simp only [List.map_toArray, List.map_cons, List.map_nil]); first | done | rfl | (simp only [List.length_drop, List.length_take]; rfl)) ?_; (with_reducible refine (paybooklaw03_right.calls a0 true _ A6.out).mono ?_); rintro e w' ⟨rfl, ⟨nd, rfl⟩⟩; refine ⟨_, rfl, ?_⟩) | (go_at_call 14; (with_reducible refine (paybooklaw03_right.calls a1 t152 _ A8.out).mono ?_); rintro e w' ⟨rfl, ⟨nd, rfl⟩⟩))
   go_meet
   case rel => exact ⟨_, (t152), (by first | rfl | (simp; done) | (simp [*]; done)), H', ⟨by first | omega | exact Nat.le_refl _⟩, by repeat (first | exact Drawn0.refl _ | apply Drawn0.step)⟩
  ·replace c7 := Bool.eq_false_iff.mpr c7
   subst c7
   have H1 : (paybooklaw03_PurseAdds.j0 k a0 a1 t147 t148 t149 t150 false) = some true := by rw [if_neg (show ¬ (false = true) by decide)] at H; exact H
   clear H
   have H := H1
   clear H1
   have H' := Aside0.mk H
   clear H
   go_wp2_with (first | ((with_reducible refine gate_callee (f := 14) rfl ?_); refine goesL_ (some 25) rfl rfl Try.func14 (by kernel_rfl) rfl #[.int .i64 a0] rfl (by (try simp only [List.map_toArray, List.map_cons, List.map_nil]); first | done | rfl | (simp only [List.length_drop, List.length_take]; rfl)) ?_; (with_reducible refine (paybooklaw03_right.calls a0 false _ A6.out).mono ?_); rintro e w' ⟨rfl, ⟨nd, rfl⟩⟩; refine ⟨_, rfl, ?_⟩))
   go_meet
   case rel => exact ⟨_, (false), (by first | rfl | (simp; done) | (simp [*]; done)), H', ⟨by first | omega | exact Nat.le_refl _⟩, by repeat (first | exact Drawn0.refl _ | apply Drawn0.step)⟩
 case rest =>
  clear HC5
  try clear c1
  try clear p2
  try clear c6
  try clear c7
  obtain ⟨kq, x9_4, rfl, HA, HJ4, ⟨mc4, rfl⟩⟩ := hcut
  cases kq with
  | zero => exact absurd HA.out (by simp [paybooklaw03_PurseAdds.j0])
  | succ kj4 =>
   have H := HA.out
   clear HA
   simp only [paybooklaw03_PurseAdds.j0] at H
   have HC9 := Aside0.mk H
   clear H
   go_upto_region 4 with (fail)
   go_cut [10] (fun v10 wc => ∃ (kq : Nat) (x10_8 : Bool), v10 = .bool x10_8 ∧ Aside0 (paybooklaw03_PurseAdds.j1 kq a0 a1 t147 t148 t149 t150 x9_4 x10_8 = some true) ∧ Aside0 (kq ≤ kj4) ∧ Drawn0 w wc)
   case first =>
    have H := HC9.out
    clear HC9
    by_cases c10 : x9_4 = true
    ·subst c10
     have H1 : ((paybooklaw03_right.f (wrap64 (a0 + a1))).bind fun t153 => (paybooklaw03_PurseAdds.j1 kj4 a0 a1 t147 t148 t149 t150 true t153)) = some true := by rw [if_pos rfl] at H; exact H
     clear H
     have H := H1
     clear H1
     replace H := Option.bind_eq_some_iff.mp H
     obtain ⟨t153, A110, H⟩ := H
     replace H : (paybooklaw03_PurseAdds.j1 kj4 a0 a1 t147 t148 t149 t150 true t153) = some true := H
     have A11 := Aside0.mk A110
     clear A110
     have H' := Aside0.mk H
     clear H
     go_wp2_with (first | (go_at_call 14; (with_reducible refine (paybooklaw03_right.calls (wrap64 (a0 + a1)) t153 _ A11.out).mono ?_); rintro e w' ⟨rfl, ⟨nd, rfl⟩⟩))
     go_meet
     case rel => exact ⟨_, (t153), (by first | rfl | (simp; done) | (simp [*]; done)), H', ⟨by have := HJ4.out; first | omega | exact Nat.le_refl _⟩, by repeat (first | exact Drawn0.refl _ | apply Drawn0.step)⟩
    ·replace c10 := Bool.eq_false_iff.mpr c10
     subst c10
     have H1 : (paybooklaw03_PurseAdds.j1 kj4 a0 a1 t147 t148 t149 t150 false false) = some true := by rw [if_neg (show ¬ (false = true) by decide)] at H; exact H
     clear H
     have H := H1
     clear H1
     have H' := Aside0.mk H
     clear H
     go_wp2
     go_meet
     case rel => exact ⟨_, (false), (by first | rfl | (simp; done) | (simp [*]; done)), H', ⟨by have := HJ4.out; first | omega | exact Nat.le_refl _⟩, by repeat (first | exact Drawn0.refl _ | apply Drawn0.step)⟩
   case rest =>
    clear HC9
    try clear c1
    try clear p2
    try clear c4
    try clear c6
    try clear p6
    try clear c7
    try clear c10
    try clear p2
    obtain ⟨kq, x10_8, rfl, HA, HJ8, ⟨mc8, rfl⟩⟩ := hcut
    cases kq with
    | zero => exact absurd HA.out (by simp [paybooklaw03_PurseAdds.j1])
    | succ kj8 =>
     have H := HA.out
     clear HA
     simp only [paybooklaw03_PurseAdds.j1] at H
     by_cases c12 : x9_4 = true
     ·subst c12
      have H1 : ((paybooklaw03_right.f (wrap64 (a0 - a1))).bind fun t154 => ((paybooklaw03_awake.f kj8).bind fun t155 => (if t155 = true then ((purse_Right.f a0).bind fun t156 => ((paybooklaw03_right.f a0).bind fun t157 => (if (t156 == t157) = true then (if ((t148 == 0) == x10_8) = true then (if x10_8 = true then (if ((t150 == 0) == t154) = true then (if t154 = true then (if t147 = (wrap64 (a0 + a1)) then (if t149 = (wrap64 (a0 - a1)) then (some true) else (some false)) else (some false)) else (if t150 = 9 then (if t147 = (wrap64 (a0 + a1)) then (some (t149 == 0)) else (some false)) else (some false))) else (some false)) else (if t148 = 9 then (if ((t150 == 0) == t154) = true then (if t154 = true then (if t149 = (wrap64 (a0 - a1)) then (if t147 = 0 then (some true) else (some false)) else (some false)) else (if t150 = 9 then (if t147 = 0 then (some (t149 == 0)) else (some false)) else (some false))) else (some false)) else (some false))) else (some false)) else (some false)))) else (some false)))) = some true := by rw [if_pos rfl] at H; exact H
      clear H
      have H := H1
      clear H1
      replace H := Option.bind_eq_some_iff.mp H
      obtain ⟨t154, A130, H⟩ := H
      replace H : ((paybooklaw03_awake.f kj8).bind fun t155 => (if t155 = true then ((purse_Right.f a0).bind fun t156 => ((paybooklaw03_right.f a0).bind fun t157 => (if (t156 == t157) = true then (if ((t148 == 0) == x10_8) = true then (if x10_8 = true then (if ((t150 == 0) == t154) = true then (if t154 = true then (if t147 = (wrap64 (a0 + a1)) then (if t149 = (wrap64 (a0 - a1)) then (some true) else (some false)) else (some false)) else (if t150 = 9 then (if t147 = (wrap64 (a0 + a1)) then (some (t149 == 0)) else (some false)) else (some false))) else (some false)) else (if t148 = 9 then (if ((t150 == 0) == t154) = true then (if t154 = true then (if t149 = (wrap64 (a0 - a1)) then (if t147 = 0 then (some true) else (some false)) else (some false)) else (if t150 = 9 then (if t147 = 0 then (some (t149 == 0)) else (some false)) else (some false))) else (some false)) else (some false))) else (some false)) else (some false)))) else (some false))) = some true := H
      have A13 := Aside0.mk A130
      clear A130
      replace H := Option.bind_eq_some_iff.mp H
      obtain ⟨t155, A140, H⟩ := H
      replace H : (if t155 = true then ((purse_Right.f a0).bind fun t156 => ((paybooklaw03_right.f a0).bind fun t157 => (if (t156 == t157) = true then (if ((t148 == 0) == x10_8) = true then (if x10_8 = true then (if ((t150 == 0) == t154) = true then (if t154 = true then (if t147 = (wrap64 (a0 + a1)) then (if t149 = (wrap64 (a0 - a1)) then (some true) else (some false)) else (some false)) else (if t150 = 9 then (if t147 = (wrap64 (a0 + a1)) then (some (t149 == 0)) else (some false)) else (some false))) else (some false)) else (if t148 = 9 then (if ((t150 == 0) == t154) = true then (if t154 = true then (if t149 = (wrap64 (a0 - a1)) then (if t147 = 0 then (some true) else (some false)) else (some false)) else (if t150 = 9 then (if t147 = 0 then (some (t149 == 0)) else (some false)) else (some false))) else (some false)) else (some false))) else (some false)) else (some false)))) else (some false)) = some true := H
      have A14 := Aside0.mk A140
      clear A140
      by_cases c15 : t155 = true
      ·subst c15
       have H1 : ((purse_Right.f a0).bind fun t156 => ((paybooklaw03_right.f a0).bind fun t157 => (if (t156 == t157) = true then (if ((t148 == 0) == x10_8) = true then (if x10_8 = true then (if ((t150 == 0) == t154) = true then (if t154 = true then (if t147 = (wrap64 (a0 + a1)) then (if t149 = (wrap64 (a0 - a1)) then (some true) else (some false)) else (some false)) else (if t150 = 9 then (if t147 = (wrap64 (a0 + a1)) then (some (t149 == 0)) else (some false)) else (some false))) else (some false)) else (if t148 = 9 then (if ((t150 == 0) == t154) = true then (if t154 = true then (if t149 = (wrap64 (a0 - a1)) then (if t147 = 0 then (some true) else (some false)) else (some false)) else (if t150 = 9 then (if t147 = 0 then (some (t149 == 0)) else (some false)) else (some false))) else (some false)) else (some false))) else (some false)) else (some false)))) = some true := by rw [if_pos rfl] at H; exact H
       clear H
       have H := H1
       clear H1
       replace H := Option.bind_eq_some_iff.mp H
       obtain ⟨t156, A160, H⟩ := H
       replace H : ((paybooklaw03_right.f a0).bind fun t157 => (if (t156 == t157) = true then (if ((t148 == 0) == x10_8) = true then (if x10_8 = true then (if ((t150 == 0) == t154) = true then (if t154 = true then (if t147 = (wrap64 (a0 + a1)) then (if t149 = (wrap64 (a0 - a1)) then (some true) else (some false)) else (some false)) else (if t150 = 9 then (if t147 = (wrap64 (a0 + a1)) then (some (t149 == 0)) else (some false)) else (some false))) else (some false)) else (if t148 = 9 then (if ((t150 == 0) == t154) = true then (if t154 = true then (if t149 = (wrap64 (a0 - a1)) then (if t147 = 0 then (some true) else (some false)) else (some false)) else (if t150 = 9 then (if t147 = 0 then (some (t149 == 0)) else (some false)) else (some false))) else (some false)) else (some false))) else (some false)) else (some false))) = some true := H
       have A16 := Aside0.mk A160
       clear A160
       replace H := Option.bind_eq_some_iff.mp H
       obtain ⟨t157, A170, H⟩ := H
       replace H : (if (t156 == t157) = true then (if ((t148 == 0) == x10_8) = true then (if x10_8 = true then (if ((t150 == 0) == t154) = true then (if t154 = true then (if t147 = (wrap64 (a0 + a1)) then (if t149 = (wrap64 (a0 - a1)) then (some true) else (some false)) else (some false)) else (if t150 = 9 then (if t147 = (wrap64 (a0 + a1)) then (some (t149 == 0)) else (some false)) else (some false))) else (some false)) else (if t148 = 9 then (if ((t150 == 0) == t154) = true then (if t154 = true then (if t149 = (wrap64 (a0 - a1)) then (if t147 = 0 then (some true) else (some false)) else (some false)) else (if t150 = 9 then (if t147 = 0 then (some (t149 == 0)) else (some false)) else (some false))) else (some false)) else (some false))) else (some false)) else (some false)) = some true := H
       have A17 := Aside0.mk A170
       clear A170
       by_cases c18 : (t156 == t157) = true
       ·rw [if_pos c18] at H
        have c18b0 : (t156 == t157) = true := c18
        (try (have c18b1 : decide (t156 = t157) = true := by simpa using c18))
        (try (have c18b2 : (t156 == t157) = true := by simpa using c18))
        clear c18
        by_cases c19 : ((t148 == 0) == x10_8) = true
        ·rw [if_pos c19] at H
         have c19b0 : ((t148 == 0) == x10_8) = true := c19
         (try (have c19b1 : decide ((t148 == 0) = x10_8) = true := by simpa using c19))
         (try (have c19b2 : ((t148 == 0) == x10_8) = true := by simpa using c19))
         clear c19
         by_cases c20 : x10_8 = true
         ·subst c20
          have H1 : (if ((t150 == 0) == t154) = true then (if t154 = true then (if t147 = (wrap64 (a0 + a1)) then (if t149 = (wrap64 (a0 - a1)) then (some true) else (some false)) else (some false)) else (if t150 = 9 then (if t147 = (wrap64 (a0 + a1)) then (some (t149 == 0)) else (some false)) else (some false))) else (some false)) = some true := by rw [if_pos rfl] at H; exact H
          clear H
          have H := H1
          clear H1
          (try (have c19b0z_ := c19b0; simp only [beq_true, beq_false, true_beq, false_beq, Bool.not_eq_true', Bool.not_eq_false', Bool.not_true, Bool.not_false] at c19b0z_))
          (try (have c19b1z_ := c19b1; simp only [beq_true, beq_false, true_beq, false_beq, Bool.not_eq_true', Bool.not_eq_false', Bool.not_true, Bool.not_false] at c19b1z_))
          (try (have c19b2z_ := c19b2; simp only [beq_true, beq_false, true_beq, false_beq, Bool.not_eq_true', Bool.not_eq_false', Bool.not_true, Bool.not_false] at c19b2z_))
          by_cases c21 : ((t150 == 0) == t154) = true
          ·rw [if_pos c21] at H
           have c21b0 : ((t150 == 0) == t154) = true := c21
           (try (have c21b1 : decide ((t150 == 0) = t154) = true := by simpa using c21))
           (try (have c21b2 : ((t150 == 0) == t154) = true := by simpa using c21))
           clear c21
           by_cases c22 : t154 = true
           ·subst c22
            have H1 : (if t147 = (wrap64 (a0 + a1)) then (if t149 = (wrap64 (a0 - a1)) then (some true) else (some false)) else (some false)) = some true := by rw [if_pos rfl] at H; exact H
            clear H
            have H := H1
            clear H1
            (try (have c21b0z_ := c21b0; simp only [beq_true, beq_false, true_beq, false_beq, Bool.not_eq_true', Bool.not_eq_false', Bool.not_true, Bool.not_false] at c21b0z_))
            (try (have c21b1z_ := c21b1; simp only [beq_true, beq_false, true_beq, false_beq, Bool.not_eq_true', Bool.not_eq_false', Bool.not_true, Bool.not_false] at c21b1z_))
            (try (have c21b2z_ := c21b2; simp only [beq_true, beq_false, true_beq, false_beq, Bool.not_eq_true', Bool.not_eq_false', Bool.not_true, Bool.not_false] at c21b2z_))
            by_cases c23 : t147 = (wrap64 (a0 + a1))
            ·rw [if_pos c23] at H
             have c23b0 : (t147 == (wrap64 (a0 + a1))) = true := beq_iff_eq.mpr c23
             have c23b1 : (t147 != (wrap64 (a0 + a1))) = false := bne_eq_false_iff_eq.mpr c23
             clear c23
             by_cases c24 : t149 = (wrap64 (a0 - a1))
             ·rw [if_pos c24] at H
              have c24b0 : (t149 == (wrap64 (a0 - a1))) = true := beq_iff_eq.mpr c24
              have c24b1 : (t149 != (wrap64 (a0 - a1))) = false := bne_eq_false_iff_eq.mpr c24
              clear c24
              clear H
              go_wp2_with (first | (go_at_call 14; (with_reducible refine (paybooklaw03_right.calls (wrap64 (a0 - a1)) true _ A13.out).mono ?_); rintro e w' ⟨rfl, ⟨nd, rfl⟩⟩) | (go_at_call 10; (with_reducible refine (paybooklaw03_awake.calls kj8  true _ A14.out).mono ?_); rintro e w' ⟨rfl, ⟨nd, rfl⟩⟩) | (go_at_call 15; (with_reducible refine (purse_Right.calls a0 t156 _ A16.out).mono ?_); rintro e w' ⟨rfl, ⟨nd, rfl⟩⟩) | (go_at_call 14; (with_reducible refine (paybooklaw03_right.calls a0 t157 _ A17.out).mono ?_); rintro e w' ⟨rfl, ⟨nd, rfl⟩⟩))
              go_ret
              exact ⟨by first | rfl | (simp; done) | (simp [*]; done), by repeat (first | exact Drawn0.refl _ | apply Drawn0.step)⟩
             ·rw [if_neg c24] at H
              have c24b0 : (t149 == (wrap64 (a0 - a1))) = false := beq_eq_false_iff_ne.mpr c24
              have c24b1 : (t149 != (wrap64 (a0 - a1))) = true := bne_iff_ne.mpr c24
              exact absurd H (by simp)
            ·rw [if_neg c23] at H
             have c23b0 : (t147 == (wrap64 (a0 + a1))) = false := beq_eq_false_iff_ne.mpr c23
             have c23b1 : (t147 != (wrap64 (a0 + a1))) = true := bne_iff_ne.mpr c23
             exact absurd H (by simp)
           ·replace c22 := Bool.eq_false_iff.mpr c22
            subst c22
            have H1 : (if t150 = 9 then (if t147 = (wrap64 (a0 + a1)) then (some (t149 == 0)) else (some false)) else (some false)) = some true := by rw [if_neg (show ¬ (false = true) by decide)] at H; exact H
            clear H
            have H := H1
            clear H1
            (try (have c21b0z_ := c21b0; simp only [beq_true, beq_false, true_beq, false_beq, Bool.not_eq_true', Bool.not_eq_false', Bool.not_true, Bool.not_false] at c21b0z_))
            (try (have c21b1z_ := c21b1; simp only [beq_true, beq_false, true_beq, false_beq, Bool.not_eq_true', Bool.not_eq_false', Bool.not_true, Bool.not_false] at c21b1z_))
            (try (have c21b2z_ := c21b2; simp only [beq_true, beq_false, true_beq, false_beq, Bool.not_eq_true', Bool.not_eq_false', Bool.not_true, Bool.not_false] at c21b2z_))
            by_cases c25 : t150 = 9
            ·rw [if_pos c25] at H
             have c25b0 : (t150 == 9) = true := beq_iff_eq.mpr c25
             have c25b1 : (t150 != 9) = false := bne_eq_false_iff_eq.mpr c25
             clear c25
             by_cases c26 : t147 = (wrap64 (a0 + a1))
             ·rw [if_pos c26] at H
              have c26b0 : (t147 == (wrap64 (a0 + a1))) = true := beq_iff_eq.mpr c26
              have c26b1 : (t147 != (wrap64 (a0 + a1))) = false := bne_eq_false_iff_eq.mpr c26
              clear c26
              have HT_ := Option.some.inj H
              clear H
              (try (have HT_z_ := HT_; simp only [beq_true, beq_false, true_beq, false_beq, Bool.not_eq_true', Bool.not_eq_false', Bool.not_true, Bool.not_false] at HT_z_))
              go_wp2_with (first | (go_at_call 14; (with_reducible refine (paybooklaw03_right.calls (wrap64 (a0 - a1)) false _ A13.out).mono ?_); rintro e w' ⟨rfl, ⟨nd, rfl⟩⟩) | (go_at_call 10; (with_reducible refine (paybooklaw03_awake.calls kj8  true _ A14.out).mono ?_); rintro e w' ⟨rfl, ⟨nd, rfl⟩⟩) | (go_at_call 15; (with_reducible refine (purse_Right.calls a0 t156 _ A16.out).mono ?_); rintro e w' ⟨rfl, ⟨nd, rfl⟩⟩) | (go_at_call 14; (with_reducible refine (paybooklaw03_right.calls a0 t157 _ A17.out).mono ?_); rintro e w' ⟨rfl, ⟨nd, rfl⟩⟩))
              go_ret
              exact ⟨by first | rfl | (simp; done) | (simp [*]; done), by repeat (first | exact Drawn0.refl _ | apply Drawn0.step)⟩
             ·rw [if_neg c26] at H
              have c26b0 : (t147 == (wrap64 (a0 + a1))) = false := beq_eq_false_iff_ne.mpr c26
              have c26b1 : (t147 != (wrap64 (a0 + a1))) = true := bne_iff_ne.mpr c26
              exact absurd H (by simp)
            ·rw [if_neg c25] at H
             have c25b0 : (t150 == 9) = false := beq_eq_false_iff_ne.mpr c25
             have c25b1 : (t150 != 9) = true := bne_iff_ne.mpr c25
             exact absurd H (by simp)
          ·rw [if_neg c21] at H
           have c21b0 : ((t150 == 0) == t154) = false := by simpa using c21
           (try (have c21b1 : decide ((t150 == 0) = t154) = false := by simpa using c21))
           (try (have c21b2 : ((t150 == 0) == t154) = false := by simpa using c21))
           (try (have c21b3 : ¬ ((t150 == 0) = t154) := by simpa using c21))
           clear c21
           exact absurd H (by simp)
         ·replace c20 := Bool.eq_false_iff.mpr c20
          subst c20
          have H1 : (if t148 = 9 then (if ((t150 == 0) == t154) = true then (if t154 = true then (if t149 = (wrap64 (a0 - a1)) then (if t147 = 0 then (some true) else (some false)) else (some false)) else (if t150 = 9 then (if t147 = 0 then (some (t149 == 0)) else (some false)) else (some false))) else (some false)) else (some false)) = some true := by rw [if_neg (show ¬ (false = true) by decide)] at H; exact H
          clear H
          have H := H1
          clear H1
          (try (have c19b0z_ := c19b0; simp only [beq_true, beq_false, true_beq, false_beq, Bool.not_eq_true', Bool.not_eq_false', Bool.not_true, Bool.not_false] at c19b0z_))
          (try (have c19b1z_ := c19b1; simp only [beq_true, beq_false, true_beq, false_beq, Bool.not_eq_true', Bool.not_eq_false', Bool.not_true, Bool.not_false] at c19b1z_))
          (try (have c19b2z_ := c19b2; simp only [beq_true, beq_false, true_beq, false_beq, Bool.not_eq_true', Bool.not_eq_false', Bool.not_true, Bool.not_false] at c19b2z_))
          by_cases c27 : t148 = 9
          ·rw [if_pos c27] at H
           have c27b0 : (t148 == 9) = true := beq_iff_eq.mpr c27
           have c27b1 : (t148 != 9) = false := bne_eq_false_iff_eq.mpr c27
           clear c27
           by_cases c28 : ((t150 == 0) == t154) = true
           ·rw [if_pos c28] at H
            have c28b0 : ((t150 == 0) == t154) = true := c28
            (try (have c28b1 : decide ((t150 == 0) = t154) = true := by simpa using c28))
            (try (have c28b2 : ((t150 == 0) == t154) = true := by simpa using c28))
            clear c28
            by_cases c29 : t154 = true
            ·subst c29
             have H1 : (if t149 = (wrap64 (a0 - a1)) then (if t147 = 0 then (some true) else (some false)) else (some false)) = some true := by rw [if_pos rfl] at H; exact H
             clear H
             have H := H1
             clear H1
             (try (have c28b0z_ := c28b0; simp only [beq_true, beq_false, true_beq, false_beq, Bool.not_eq_true', Bool.not_eq_false', Bool.not_true, Bool.not_false] at c28b0z_))
             (try (have c28b1z_ := c28b1; simp only [beq_true, beq_false, true_beq, false_beq, Bool.not_eq_true', Bool.not_eq_false', Bool.not_true, Bool.not_false] at c28b1z_))
             (try (have c28b2z_ := c28b2; simp only [beq_true, beq_false, true_beq, false_beq, Bool.not_eq_true', Bool.not_eq_false', Bool.not_true, Bool.not_false] at c28b2z_))
             by_cases c30 : t149 = (wrap64 (a0 - a1))
             ·rw [if_pos c30] at H
              have c30b0 : (t149 == (wrap64 (a0 - a1))) = true := beq_iff_eq.mpr c30
              have c30b1 : (t149 != (wrap64 (a0 - a1))) = false := bne_eq_false_iff_eq.mpr c30
              clear c30
              by_cases c31 : t147 = 0
              ·rw [if_pos c31] at H
               have c31b0 : (t147 == 0) = true := beq_iff_eq.mpr c31
               have c31b1 : (t147 != 0) = false := bne_eq_false_iff_eq.mpr c31
               clear c31
               clear H
               go_wp2_with (first | (go_at_call 14; (with_reducible refine (paybooklaw03_right.calls (wrap64 (a0 - a1)) true _ A13.out).mono ?_); rintro e w' ⟨rfl, ⟨nd, rfl⟩⟩) | (go_at_call 10; (with_reducible refine (paybooklaw03_awake.calls kj8  true _ A14.out).mono ?_); rintro e w' ⟨rfl, ⟨nd, rfl⟩⟩) | (go_at_call 15; (with_reducible refine (purse_Right.calls a0 t156 _ A16.out).mono ?_); rintro e w' ⟨rfl, ⟨nd, rfl⟩⟩) | (go_at_call 14; (with_reducible refine (paybooklaw03_right.calls a0 t157 _ A17.out).mono ?_); rintro e w' ⟨rfl, ⟨nd, rfl⟩⟩))
               go_ret
               exact ⟨by first | rfl | (simp; done) | (simp [*]; done), by repeat (first | exact Drawn0.refl _ | apply Drawn0.step)⟩
              ·rw [if_neg c31] at H
               have c31b0 : (t147 == 0) = false := beq_eq_false_iff_ne.mpr c31
               have c31b1 : (t147 != 0) = true := bne_iff_ne.mpr c31
               exact absurd H (by simp)
             ·rw [if_neg c30] at H
              have c30b0 : (t149 == (wrap64 (a0 - a1))) = false := beq_eq_false_iff_ne.mpr c30
              have c30b1 : (t149 != (wrap64 (a0 - a1))) = true := bne_iff_ne.mpr c30
              exact absurd H (by simp)
            ·replace c29 := Bool.eq_false_iff.mpr c29
             subst c29
             have H1 : (if t150 = 9 then (if t147 = 0 then (some (t149 == 0)) else (some false)) else (some false)) = some true := by rw [if_neg (show ¬ (false = true) by decide)] at H; exact H
             clear H
             have H := H1
             clear H1
             (try (have c28b0z_ := c28b0; simp only [beq_true, beq_false, true_beq, false_beq, Bool.not_eq_true', Bool.not_eq_false', Bool.not_true, Bool.not_false] at c28b0z_))
             (try (have c28b1z_ := c28b1; simp only [beq_true, beq_false, true_beq, false_beq, Bool.not_eq_true', Bool.not_eq_false', Bool.not_true, Bool.not_false] at c28b1z_))
             (try (have c28b2z_ := c28b2; simp only [beq_true, beq_false, true_beq, false_beq, Bool.not_eq_true', Bool.not_eq_false', Bool.not_true, Bool.not_false] at c28b2z_))
             by_cases c32 : t150 = 9
             ·rw [if_pos c32] at H
              have c32b0 : (t150 == 9) = true := beq_iff_eq.mpr c32
              have c32b1 : (t150 != 9) = false := bne_eq_false_iff_eq.mpr c32
              clear c32
              by_cases c33 : t147 = 0
              ·rw [if_pos c33] at H
               have c33b0 : (t147 == 0) = true := beq_iff_eq.mpr c33
               have c33b1 : (t147 != 0) = false := bne_eq_false_iff_eq.mpr c33
               clear c33
               have HT_ := Option.some.inj H
               clear H
               (try (have HT_z_ := HT_; simp only [beq_true, beq_false, true_beq, false_beq, Bool.not_eq_true', Bool.not_eq_false', Bool.not_true, Bool.not_false] at HT_z_))
               go_wp2_with (first | (go_at_call 14; (with_reducible refine (paybooklaw03_right.calls (wrap64 (a0 - a1)) false _ A13.out).mono ?_); rintro e w' ⟨rfl, ⟨nd, rfl⟩⟩) | (go_at_call 10; (with_reducible refine (paybooklaw03_awake.calls kj8  true _ A14.out).mono ?_); rintro e w' ⟨rfl, ⟨nd, rfl⟩⟩) | (go_at_call 15; (with_reducible refine (purse_Right.calls a0 t156 _ A16.out).mono ?_); rintro e w' ⟨rfl, ⟨nd, rfl⟩⟩) | (go_at_call 14; (with_reducible refine (paybooklaw03_right.calls a0 t157 _ A17.out).mono ?_); rintro e w' ⟨rfl, ⟨nd, rfl⟩⟩))
               go_ret
               exact ⟨by first | rfl | (simp; done) | (simp [*]; done), by repeat (first | exact Drawn0.refl _ | apply Drawn0.step)⟩
              ·rw [if_neg c33] at H
               have c33b0 : (t147 == 0) = false := beq_eq_false_iff_ne.mpr c33
               have c33b1 : (t147 != 0) = true := bne_iff_ne.mpr c33
               exact absurd H (by simp)
             ·rw [if_neg c32] at H
              have c32b0 : (t150 == 9) = false := beq_eq_false_iff_ne.mpr c32
              have c32b1 : (t150 != 9) = true := bne_iff_ne.mpr c32
              exact absurd H (by simp)
           ·rw [if_neg c28] at H
            have c28b0 : ((t150 == 0) == t154) = false := by simpa using c28
            (try (have c28b1 : decide ((t150 == 0) = t154) = false := by simpa using c28))
            (try (have c28b2 : ((t150 == 0) == t154) = false := by simpa using c28))
            (try (have c28b3 : ¬ ((t150 == 0) = t154) := by simpa using c28))
            clear c28
            exact absurd H (by simp)
          ·rw [if_neg c27] at H
           have c27b0 : (t148 == 9) = false := beq_eq_false_iff_ne.mpr c27
           have c27b1 : (t148 != 9) = true := bne_iff_ne.mpr c27
           exact absurd H (by simp)
        ·rw [if_neg c19] at H
         have c19b0 : ((t148 == 0) == x10_8) = false := by simpa using c19
         (try (have c19b1 : decide ((t148 == 0) = x10_8) = false := by simpa using c19))
         (try (have c19b2 : ((t148 == 0) == x10_8) = false := by simpa using c19))
         (try (have c19b3 : ¬ ((t148 == 0) = x10_8) := by simpa using c19))
         clear c19
         exact absurd H (by simp)
       ·rw [if_neg c18] at H
        have c18b0 : (t156 == t157) = false := by simpa using c18
        (try (have c18b1 : decide (t156 = t157) = false := by simpa using c18))
        (try (have c18b2 : (t156 == t157) = false := by simpa using c18))
        (try (have c18b3 : ¬ (t156 = t157) := by simpa using c18))
        clear c18
        exact absurd H (by simp)
      ·replace c15 := Bool.eq_false_iff.mpr c15
       subst c15
       have H1 : (some false) = some true := by rw [if_neg (show ¬ (false = true) by decide)] at H; exact H
       clear H
       have H := H1
       clear H1
       exact absurd H (by simp)
     ·replace c12 := Bool.eq_false_iff.mpr c12
      subst c12
      have H1 : ((paybooklaw03_awake.f kj8).bind fun t158 => (if t158 = true then ((purse_Right.f a0).bind fun t159 => ((paybooklaw03_right.f a0).bind fun t160 => (if (t159 == t160) = true then (if ((t148 == 0) == x10_8) = true then (if x10_8 = true then (if ((t150 == 0) == false) = true then (if t150 = 9 then (if t147 = (wrap64 (a0 + a1)) then (some (t149 == 0)) else (some false)) else (some false)) else (some false)) else (if t148 = 9 then (if ((t150 == 0) == false) = true then (if t150 = 9 then (if t147 = 0 then (some (t149 == 0)) else (some false)) else (some false)) else (some false)) else (some false))) else (some false)) else (some false)))) else (some false))) = some true := by rw [if_neg (show ¬ (false = true) by decide)] at H; exact H
      clear H
      have H := H1
      clear H1
      replace H := Option.bind_eq_some_iff.mp H
      obtain ⟨t158, A340, H⟩ := H
      replace H : (if t158 = true then ((purse_Right.f a0).bind fun t159 => ((paybooklaw03_right.f a0).bind fun t160 => (if (t159 == t160) = true then (if ((t148 == 0) == x10_8) = true then (if x10_8 = true then (if ((t150 == 0) == false) = true then (if t150 = 9 then (if t147 = (wrap64 (a0 + a1)) then (some (t149 == 0)) else (some false)) else (some false)) else (some false)) else (if t148 = 9 then (if ((t150 == 0) == false) = true then (if t150 = 9 then (if t147 = 0 then (some (t149 == 0)) else (some false)) else (some false)) else (some false)) else (some false))) else (some false)) else (some false)))) else (some false)) = some true := H
      have A34 := Aside0.mk A340
      clear A340
      by_cases c35 : t158 = true
      ·subst c35
       have H1 : ((purse_Right.f a0).bind fun t159 => ((paybooklaw03_right.f a0).bind fun t160 => (if (t159 == t160) = true then (if ((t148 == 0) == x10_8) = true then (if x10_8 = true then (if ((t150 == 0) == false) = true then (if t150 = 9 then (if t147 = (wrap64 (a0 + a1)) then (some (t149 == 0)) else (some false)) else (some false)) else (some false)) else (if t148 = 9 then (if ((t150 == 0) == false) = true then (if t150 = 9 then (if t147 = 0 then (some (t149 == 0)) else (some false)) else (some false)) else (some false)) else (some false))) else (some false)) else (some false)))) = some true := by rw [if_pos rfl] at H; exact H
       clear H
       have H := H1
       clear H1
       replace H := Option.bind_eq_some_iff.mp H
       obtain ⟨t159, A360, H⟩ := H
       replace H : ((paybooklaw03_right.f a0).bind fun t160 => (if (t159 == t160) = true then (if ((t148 == 0) == x10_8) = true then (if x10_8 = true then (if ((t150 == 0) == false) = true then (if t150 = 9 then (if t147 = (wrap64 (a0 + a1)) then (some (t149 == 0)) else (some false)) else (some false)) else (some false)) else (if t148 = 9 then (if ((t150 == 0) == false) = true then (if t150 = 9 then (if t147 = 0 then (some (t149 == 0)) else (some false)) else (some false)) else (some false)) else (some false))) else (some false)) else (some false))) = some true := H
       have A36 := Aside0.mk A360
       clear A360
       replace H := Option.bind_eq_some_iff.mp H
       obtain ⟨t160, A370, H⟩ := H
       replace H : (if (t159 == t160) = true then (if ((t148 == 0) == x10_8) = true then (if x10_8 = true then (if ((t150 == 0) == false) = true then (if t150 = 9 then (if t147 = (wrap64 (a0 + a1)) then (some (t149 == 0)) else (some false)) else (some false)) else (some false)) else (if t148 = 9 then (if ((t150 == 0) == false) = true then (if t150 = 9 then (if t147 = 0 then (some (t149 == 0)) else (some false)) else (some false)) else (some false)) else (some false))) else (some false)) else (some false)) = some true := H
       have A37 := Aside0.mk A370
       clear A370
       by_cases c38 : (t159 == t160) = true
       ·rw [if_pos c38] at H
        have c38b0 : (t159 == t160) = true := c38
        (try (have c38b1 : decide (t159 = t160) = true := by simpa using c38))
        (try (have c38b2 : (t159 == t160) = true := by simpa using c38))
        clear c38
        by_cases c39 : ((t148 == 0) == x10_8) = true
        ·rw [if_pos c39] at H
         have c39b0 : ((t148 == 0) == x10_8) = true := c39
         (try (have c39b1 : decide ((t148 == 0) = x10_8) = true := by simpa using c39))
         (try (have c39b2 : ((t148 == 0) == x10_8) = true := by simpa using c39))
         clear c39
         by_cases c40 : x10_8 = true
         ·subst c40
          have H1 : (if ((t150 == 0) == false) = true then (if t150 = 9 then (if t147 = (wrap64 (a0 + a1)) then (some (t149 == 0)) else (some false)) else (some false)) else (some false)) = some true := by rw [if_pos rfl] at H; exact H
          clear H
          have H := H1
          clear H1
          (try (have c39b0z_ := c39b0; simp only [beq_true, beq_false, true_beq, false_beq, Bool.not_eq_true', Bool.not_eq_false', Bool.not_true, Bool.not_false] at c39b0z_))
          (try (have c39b1z_ := c39b1; simp only [beq_true, beq_false, true_beq, false_beq, Bool.not_eq_true', Bool.not_eq_false', Bool.not_true, Bool.not_false] at c39b1z_))
          (try (have c39b2z_ := c39b2; simp only [beq_true, beq_false, true_beq, false_beq, Bool.not_eq_true', Bool.not_eq_false', Bool.not_true, Bool.not_false] at c39b2z_))
          by_cases c41 : ((t150 == 0) == false) = true
          ·rw [if_pos c41] at H
           have c41b0 : ((t150 == 0) == false) = true := c41
           (try (have c41b1 : decide ((t150 == 0) = false) = true := by simpa using c41))
           (try (have c41b2 : ((t150 == 0) == false) = true := by simpa using c41))
           clear c41
           (try (have c41b0z_ := c41b0; simp only [beq_true, beq_false, true_beq, false_beq, Bool.not_eq_true', Bool.not_eq_false', Bool.not_true, Bool.not_false] at c41b0z_))
           by_cases c42 : t150 = 9
           ·rw [if_pos c42] at H
            have c42b0 : (t150 == 9) = true := beq_iff_eq.mpr c42
            have c42b1 : (t150 != 9) = false := bne_eq_false_iff_eq.mpr c42
            clear c42
            by_cases c43 : t147 = (wrap64 (a0 + a1))
            ·rw [if_pos c43] at H
             have c43b0 : (t147 == (wrap64 (a0 + a1))) = true := beq_iff_eq.mpr c43
             have c43b1 : (t147 != (wrap64 (a0 + a1))) = false := bne_eq_false_iff_eq.mpr c43
             clear c43
             have HT_ := Option.some.inj H
             clear H
             (try (have HT_z_ := HT_; simp only [beq_true, beq_false, true_beq, false_beq, Bool.not_eq_true', Bool.not_eq_false', Bool.not_true, Bool.not_false] at HT_z_))
             go_wp2_with (first | (go_at_call 10; (with_reducible refine (paybooklaw03_awake.calls kj8  true _ A34.out).mono ?_); rintro e w' ⟨rfl, ⟨nd, rfl⟩⟩) | (go_at_call 15; (with_reducible refine (purse_Right.calls a0 t159 _ A36.out).mono ?_); rintro e w' ⟨rfl, ⟨nd, rfl⟩⟩) | (go_at_call 14; (with_reducible refine (paybooklaw03_right.calls a0 t160 _ A37.out).mono ?_); rintro e w' ⟨rfl, ⟨nd, rfl⟩⟩))
             go_ret
             exact ⟨by first | rfl | (simp; done) | (simp [*]; done), by repeat (first | exact Drawn0.refl _ | apply Drawn0.step)⟩
            ·rw [if_neg c43] at H
             have c43b0 : (t147 == (wrap64 (a0 + a1))) = false := beq_eq_false_iff_ne.mpr c43
             have c43b1 : (t147 != (wrap64 (a0 + a1))) = true := bne_iff_ne.mpr c43
             exact absurd H (by simp)
           ·rw [if_neg c42] at H
            have c42b0 : (t150 == 9) = false := beq_eq_false_iff_ne.mpr c42
            have c42b1 : (t150 != 9) = true := bne_iff_ne.mpr c42
            exact absurd H (by simp)
          ·rw [if_neg c41] at H
           have c41b0 : ((t150 == 0) == false) = false := by simpa using c41
           (try (have c41b1 : decide ((t150 == 0) = false) = false := by simpa using c41))
           (try (have c41b2 : ((t150 == 0) == false) = false := by simpa using c41))
           (try (have c41b3 : ¬ ((t150 == 0) = false) := by simpa using c41))
           clear c41
           (try (have c41b0z_ := c41b0; simp only [beq_true, beq_false, true_beq, false_beq, Bool.not_eq_true', Bool.not_eq_false', Bool.not_true, Bool.not_false] at c41b0z_))
           exact absurd H (by simp)
         ·replace c40 := Bool.eq_false_iff.mpr c40
          subst c40
          have H1 : (if t148 = 9 then (if ((t150 == 0) == false) = true then (if t150 = 9 then (if t147 = 0 then (some (t149 == 0)) else (some false)) else (some false)) else (some false)) else (some false)) = some true := by rw [if_neg (show ¬ (false = true) by decide)] at H; exact H
          clear H
          have H := H1
          clear H1
          (try (have c39b0z_ := c39b0; simp only [beq_true, beq_false, true_beq, false_beq, Bool.not_eq_true', Bool.not_eq_false', Bool.not_true, Bool.not_false] at c39b0z_))
          (try (have c39b1z_ := c39b1; simp only [beq_true, beq_false, true_beq, false_beq, Bool.not_eq_true', Bool.not_eq_false', Bool.not_true, Bool.not_false] at c39b1z_))
          (try (have c39b2z_ := c39b2; simp only [beq_true, beq_false, true_beq, false_beq, Bool.not_eq_true', Bool.not_eq_false', Bool.not_true, Bool.not_false] at c39b2z_))
          by_cases c44 : t148 = 9
          ·rw [if_pos c44] at H
           have c44b0 : (t148 == 9) = true := beq_iff_eq.mpr c44
           have c44b1 : (t148 != 9) = false := bne_eq_false_iff_eq.mpr c44
           clear c44
           by_cases c45 : ((t150 == 0) == false) = true
           ·rw [if_pos c45] at H
            have c45b0 : ((t150 == 0) == false) = true := c45
            (try (have c45b1 : decide ((t150 == 0) = false) = true := by simpa using c45))
            (try (have c45b2 : ((t150 == 0) == false) = true := by simpa using c45))
            clear c45
            (try (have c45b0z_ := c45b0; simp only [beq_true, beq_false, true_beq, false_beq, Bool.not_eq_true', Bool.not_eq_false', Bool.not_true, Bool.not_false] at c45b0z_))
            by_cases c46 : t150 = 9
            ·rw [if_pos c46] at H
             have c46b0 : (t150 == 9) = true := beq_iff_eq.mpr c46
             have c46b1 : (t150 != 9) = false := bne_eq_false_iff_eq.mpr c46
             clear c46
             by_cases c47 : t147 = 0
             ·rw [if_pos c47] at H
              have c47b0 : (t147 == 0) = true := beq_iff_eq.mpr c47
              have c47b1 : (t147 != 0) = false := bne_eq_false_iff_eq.mpr c47
              clear c47
              have HT_ := Option.some.inj H
              clear H
              (try (have HT_z_ := HT_; simp only [beq_true, beq_false, true_beq, false_beq, Bool.not_eq_true', Bool.not_eq_false', Bool.not_true, Bool.not_false] at HT_z_))
              go_wp2_with (first | (go_at_call 10; (with_reducible refine (paybooklaw03_awake.calls kj8  true _ A34.out).mono ?_); rintro e w' ⟨rfl, ⟨nd, rfl⟩⟩) | (go_at_call 15; (with_reducible refine (purse_Right.calls a0 t159 _ A36.out).mono ?_); rintro e w' ⟨rfl, ⟨nd, rfl⟩⟩) | (go_at_call 14; (with_reducible refine (paybooklaw03_right.calls a0 t160 _ A37.out).mono ?_); rintro e w' ⟨rfl, ⟨nd, rfl⟩⟩))
              go_ret
              exact ⟨by first | rfl | (simp; done) | (simp [*]; done), by repeat (first | exact Drawn0.refl _ | apply Drawn0.step)⟩
             ·rw [if_neg c47] at H
              have c47b0 : (t147 == 0) = false := beq_eq_false_iff_ne.mpr c47
              have c47b1 : (t147 != 0) = true := bne_iff_ne.mpr c47
              exact absurd H (by simp)
            ·rw [if_neg c46] at H
             have c46b0 : (t150 == 9) = false := beq_eq_false_iff_ne.mpr c46
             have c46b1 : (t150 != 9) = true := bne_iff_ne.mpr c46
             exact absurd H (by simp)
           ·rw [if_neg c45] at H
            have c45b0 : ((t150 == 0) == false) = false := by simpa using c45
            (try (have c45b1 : decide ((t150 == 0) = false) = false := by simpa using c45))
            (try (have c45b2 : ((t150 == 0) == false) = false := by simpa using c45))
            (try (have c45b3 : ¬ ((t150 == 0) = false) := by simpa using c45))
            clear c45
            (try (have c45b0z_ := c45b0; simp only [beq_true, beq_false, true_beq, false_beq, Bool.not_eq_true', Bool.not_eq_false', Bool.not_true, Bool.not_false] at c45b0z_))
            exact absurd H (by simp)
          ·rw [if_neg c44] at H
           have c44b0 : (t148 == 9) = false := beq_eq_false_iff_ne.mpr c44
           have c44b1 : (t148 != 9) = true := bne_iff_ne.mpr c44
           exact absurd H (by simp)
        ·rw [if_neg c39] at H
         have c39b0 : ((t148 == 0) == x10_8) = false := by simpa using c39
         (try (have c39b1 : decide ((t148 == 0) = x10_8) = false := by simpa using c39))
         (try (have c39b2 : ((t148 == 0) == x10_8) = false := by simpa using c39))
         (try (have c39b3 : ¬ ((t148 == 0) = x10_8) := by simpa using c39))
         clear c39
         exact absurd H (by simp)
       ·rw [if_neg c38] at H
        have c38b0 : (t159 == t160) = false := by simpa using c38
        (try (have c38b1 : decide (t159 = t160) = false := by simpa using c38))
        (try (have c38b2 : (t159 == t160) = false := by simpa using c38))
        (try (have c38b3 : ¬ (t159 = t160) := by simpa using c38))
        clear c38
        exact absurd H (by simp)
      ·replace c35 := Bool.eq_false_iff.mpr c35
       subst c35
       have H1 : (some false) = some true := by rw [if_neg (show ¬ (false = true) by decide)] at H; exact H
       clear H
       have H := H1
       clear H1
       exact absurd H (by simp)

/-- THE ONE PURE STATEMENT of paybooklaw03_PurseAdds: yours. -/
def paybooklaw03_PurseAdds.Pure : Prop := ∀ (a0 : Int) (a1 : Int), (Lit.int .i64 a0).wf = true → (Lit.int .i64 a1).wf = true → ∃ k, paybooklaw03_PurseAdds.f k a0 a1 = some true
theorem paybooklaw03_PurseAdds.walk (P : paybooklaw03_PurseAdds.Pure) (a0 : Int) (a1 : Int) (w : World) (w0 : (Lit.int .i64 a0).wf = true) (w1 : (Lit.int .i64 a1).wf = true) :
  Calls Try.prog 6 #[.int .i64 a0, .int .i64 a1] w fun e w' => e = .returned (.bool true) ∧ Below w.heap.size w w' := by
 obtain ⟨k, h⟩ := P a0 a1 w0 w1
 refine (paybooklaw03_PurseAdds.calls k a0 a1 w h).mono ?_
 rintro e w' ⟨rfl, hd⟩
 exact ⟨rfl, hd.below⟩

end Go.Proofs.Ytkmngemohhncaaa.PA
