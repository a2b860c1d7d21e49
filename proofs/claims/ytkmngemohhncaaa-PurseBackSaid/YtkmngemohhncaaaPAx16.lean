-- printed by this workplace: wip/patchprint.py over the kit's print
import Derived.Test.YtkmngemohhncaaaPAx0
import Derived.Test.YtkmngemohhncaaaPAx6
import Derived.Test.YtkmngemohhncaaaPAx8
import Derived.Test.YtkmngemohhncaaaPAx12
import Derived.Test.YtkmngemohhncaaaPAx13
namespace Go.Proofs.Ytkmngemohhncaaa.PA
open Go.RowKit Go.Proofs.YtkmngemohhncaaaW.PrintWords Go.Proofs.YtkmngemohhncaaaW.PrintLast Go.Proofs.YtkmngemohhncaaaW.PrintMore
attribute [local go_sem] max2_int min2_int max_two min_two max_three min_three max_four min_four   -- for this text's walks alone
set_option linter.unusedVariables false
set_option linter.unusedSimpArgs false

/-! ### paybooklaw03_PurseBack: function 7 -/
def paybooklaw03_PurseBack.j0 : Nat → Int → Int → Int → Option (Bool)
 | 0, _, _, _ => none
 | k + 1, x0, x2, x3 => (purse_Part.f k x0 (wrap64 (x2)) (wrap64 (x3))).bind fun bt165 => (if bt165.2 = 0 then ((purse_Part.f k bt165.1 (wrap64 (x2)) (wrap64 (x3))).bind fun bt167 => ((paybooklaw03_awake.f k).bind fun t169 => (if t169 = true then (if bt167.2 = 0 then (some (decide (bt167.1 ≤ bt165.1))) else (some false)) else (some false)))) else ((paybooklaw03_awake.f k).bind fun t170 => (some t170)))
def paybooklaw03_PurseBack.f (k : Nat) (a0 : Int) (a1 : Int) (a2 : Int) (a3 : Int) : Option (Bool) := (purse_Add.f a0 a1).bind fun bt161 => (if bt161.2 = 0 then ((purse_Less.f bt161.1 a1).bind fun bt163 => (if bt163.2 = 0 then (if bt163.1 = a0 then (paybooklaw03_PurseBack.j0 k a0 a2 a3) else (some false)) else (some false))) else (paybooklaw03_PurseBack.j0 k a0 a2 a3))
theorem paybooklaw03_PurseBack.mono_l : ∀ k, (∀ y0 y1 y2, LeO (paybooklaw03_PurseBack.j0 k y0 y1 y2) (paybooklaw03_PurseBack.j0 (k + 1) y0 y1 y2))
 | 0 => fun _ _ _ r h => by simp [paybooklaw03_PurseBack.j0] at h
 | k + 1 => by
  have ih0 := paybooklaw03_PurseBack.mono_l k
  ·intro y0 y1 y2
   unfold paybooklaw03_PurseBack.j0
   repeat' first
   | (with_reducible exact ih0 _ _ _)
   | (with_reducible exact paybooklaw03_awake.mono _)
   | (with_reducible exact purse_Part.mono _ _ _ _)
   | (with_reducible exact LeO.refl _)
   | (with_reducible exact LeO.none _)
   | (with_reducible refine LeO.ite ?_ ?_)
   | (with_reducible refine LeO.bind ?_ (fun _ => ?_))
   | exact ih0 _ _ _
   | exact paybooklaw03_awake.mono _
   | exact purse_Part.mono _ _ _ _
   | exact LeO.none _
   | refine LeO.ite ?_ ?_
   | refine LeO.bind ?_ (fun _ => ?_)
theorem paybooklaw03_PurseBack.mono : ∀ a0 a1 a2 a3 k, LeO (paybooklaw03_PurseBack.f k a0 a1 a2 a3) (paybooklaw03_PurseBack.f (k + 1) a0 a1 a2 a3) := by
 intro a0 a1 a2 a3 k
 have ih0 := paybooklaw03_PurseBack.mono_l k
 unfold paybooklaw03_PurseBack.f
 repeat' first
   | (with_reducible exact ih0 _ _ _)
   | (with_reducible exact paybooklaw03_awake.mono _)
   | (with_reducible exact purse_Part.mono _ _ _ _)
   | (with_reducible exact LeO.refl _)
   | (with_reducible exact LeO.none _)
   | (with_reducible refine LeO.ite ?_ ?_)
   | (with_reducible refine LeO.bind ?_ (fun _ => ?_))
   | exact ih0 _ _ _
   | exact paybooklaw03_awake.mono _
   | exact purse_Part.mono _ _ _ _
   | exact LeO.none _
   | refine LeO.ite ?_ ?_
   | refine LeO.bind ?_ (fun _ => ?_)
set_option maxHeartbeats 8000000 in
set_option maxRecDepth 100000 in
theorem paybooklaw03_PurseBack.calls (k : Nat) (a0 : Int) (a1 : Int) (a2 : Int) (a3 : Int) (w : World) (h : paybooklaw03_PurseBack.f k a0 a1 a2 a3 = some true) :
  Calls Try.prog 7 #[.int .i64 a0, .int .i64 a1, .int .i32 a2, .int .i32 a3] w fun e w' => e = .returned (.bool true) ∧ Drawn0 w w' := by
 have H : ((purse_Add.f a0 a1).bind fun bt161 => (if bt161.2 = 0 then ((purse_Less.f bt161.1 a1).bind fun bt163 => (if bt163.2 = 0 then (if bt163.1 = a0 then (paybooklaw03_PurseBack.j0 k a0 a2 a3) else (some false)) else (some false))) else (paybooklaw03_PurseBack.j0 k a0 a2 a3))) = some true := h
 clear h
 replace H := Option.bind_eq_some_iff.mp H
 obtain ⟨⟨t161, t162⟩, A50, H⟩ := H
 replace H : (if t162 = 0 then ((purse_Less.f t161 a1).bind fun bt163 => (if bt163.2 = 0 then (if bt163.1 = a0 then (paybooklaw03_PurseBack.j0 k a0 a2 a3) else (some false)) else (some false))) else (paybooklaw03_PurseBack.j0 k a0 a2 a3)) = some true := H
 have A5 := Aside0.mk A50
 clear A50
 have HC6 := Aside0.mk H
 clear H
 go_enter Try.func7, Try.ntmps7
 go_upto_if 24 with (first | ((with_reducible refine gate_callee (f := 12) rfl ?_); refine goesL_ (some 20) rfl rfl Try.func12 (by kernel_rfl) rfl #[.int .i64 a0, .int .i64 a1] rfl (by (try simp only [List.map_toArray, List.map_cons, List.map_nil]); first | done | rfl | (simp only [List.length_drop, List.length_take]; rfl)) ?_; (with_reducible refine (purse_Add.calls a0 a1 t161 t162 _ A5.out).mono ?_); rintro e w' ⟨rfl, ⟨nd, rfl⟩⟩; refine ⟨_, rfl, ?_⟩))
 (try simp only [Act.put, List.setIfInBounds_toArray, List.set_cons_zero, List.set_cons_succ])
 go_cut [] (fun wc => ∃ (kq : Nat), Aside0 (paybooklaw03_PurseBack.j0 kq a0 a2 a3 = some true) ∧ Aside0 (kq ≤ k) ∧ Drawn0 w wc)
 case first =>
  have H := HC6.out
  clear HC6
  by_cases c7 : t162 = 0
  ·rw [if_pos c7] at H
   have c7b0 : (t162 == 0) = true := beq_iff_eq.mpr c7
   have c7b1 : (t162 != 0) = false := bne_eq_false_iff_eq.mpr c7
   clear c7
   (first | (generalize hg_ : (t162 == 0) = bg_ at *; subst c7b0; have c7b0 := hg_; clear hg_) | rw [c7b0] | (simp only [i64_w, i32_w]; rw [c7b0]) | skip)
   replace H := Option.bind_eq_some_iff.mp H
   obtain ⟨⟨t163, t164⟩, A80, H⟩ := H
   replace H : (if t164 = 0 then (if t163 = a0 then (paybooklaw03_PurseBack.j0 k a0 a2 a3) else (some false)) else (some false)) = some true := H
   have A8 := Aside0.mk A80
   clear A80
   by_cases c9 : t164 = 0
   ·rw [if_pos c9] at H
    have c9b0 : (t164 == 0) = true := beq_iff_eq.mpr c9
    have c9b1 : (t164 != 0) = false := bne_eq_false_iff_eq.mpr c9
    clear c9
    by_cases c10 : t163 = a0
    ·rw [if_pos c10] at H
     have c10b0 : (t163 == a0) = true := beq_iff_eq.mpr c10
     have c10b1 : (t163 != a0) = false := bne_eq_false_iff_eq.mpr c10
     clear c10
     have H' := Aside0.mk H
     clear H
     go_wp2_with (first | ((with_reducible refine gate_callee (f := 13) rfl ?_); refine goesL_ (some 28) rfl rfl Try.func13 (by kernel_rfl) rfl #[.int .i64 t161, .int .i64 a1] rfl (by (try simp only [List.map_toArray, List.map_cons, List.map_nil]); first | done | rfl | (simp only [List.length_drop, List.length_take]; rfl)) ?_; (with_reducible refine (purse_Less.calls t161 a1 t163 t164 _ A8.out).mono ?_); rintro e w' ⟨rfl, ⟨nd, rfl⟩⟩; refine ⟨_, rfl, ?_⟩))
     go_meet
     case rel => exact ⟨_, H', ⟨by first | omega | exact Nat.le_refl _⟩, by repeat (first | exact Drawn0.refl _ | apply Drawn0.step)⟩
    ·rw [if_neg c10] at H
     have c10b0 : (t163 == a0) = false := beq_eq_false_iff_ne.mpr c10
     have c10b1 : (t163 != a0) = true := bne_iff_ne.mpr c10
     exact absurd H (by simp)
   ·rw [if_neg c9] at H
    have c9b0 : (t164 == 0) = false := beq_eq_false_iff_ne.mpr c9
    have c9b1 : (t164 != 0) = true := bne_iff_ne.mpr c9
    exact absurd H (by simp)
  ·rw [if_neg c7] at H
   have c7b0 : (t162 == 0) = false := beq_eq_false_iff_ne.mpr c7
   have c7b1 : (t162 != 0) = true := bne_iff_ne.mpr c7
   (first | (generalize hg_ : (t162 == 0) = bg_ at *; subst c7b0; have c7b0 := hg_; clear hg_) | rw [c7b0] | (simp only [i64_w, i32_w]; rw [c7b0]) | skip)
   have H' := Aside0.mk H
   clear H
   go_wp2
   go_meet
   case rel => exact ⟨_, H', ⟨by first | omega | exact Nat.le_refl _⟩, by repeat (first | exact Drawn0.refl _ | apply Drawn0.step)⟩
 case rest =>
  clear HC6
  try clear c1
  try clear p2
  try clear c7
  try clear c7b0
  try clear c7b1
  try clear c9
  try clear c9b0
  try clear c9b1
  try clear c10
  try clear c10b0
  try clear c10b1
  obtain ⟨kq, HA, HJ5, ⟨mc5, rfl⟩⟩ := hcut
  cases kq with
  | zero => exact absurd HA.out (by simp [paybooklaw03_PurseBack.j0])
  | succ kj5 =>
   have H := HA.out
   clear HA
   simp only [paybooklaw03_PurseBack.j0] at H
   replace H := Option.bind_eq_some_iff.mp H
   obtain ⟨⟨t165, t166⟩, A110, H⟩ := H
   replace H : (if t166 = 0 then ((purse_Part.f kj5 t165 (wrap64 (a2)) (wrap64 (a3))).bind fun bt167 => ((paybooklaw03_awake.f kj5).bind fun t169 => (if t169 = true then (if bt167.2 = 0 then (some (decide (bt167.1 ≤ t165))) else (some false)) else (some false)))) else ((paybooklaw03_awake.f kj5).bind fun t170 => (some t170))) = some true := H
   have A11 := Aside0.mk A110
   clear A110
   by_cases c12 : t166 = 0
   ·rw [if_pos c12] at H
    have c12b0 : (t166 == 0) = true := beq_iff_eq.mpr c12
    have c12b1 : (t166 != 0) = false := bne_eq_false_iff_eq.mpr c12
    clear c12
    replace H := Option.bind_eq_some_iff.mp H
    obtain ⟨⟨t167, t168⟩, A130, H⟩ := H
    replace H : ((paybooklaw03_awake.f kj5).bind fun t169 => (if t169 = true then (if t168 = 0 then (some (decide (t167 ≤ t165))) else (some false)) else (some false))) = some true := H
    have A13 := Aside0.mk A130
    clear A130
    replace H := Option.bind_eq_some_iff.mp H
    obtain ⟨t169, A140, H⟩ := H
    replace H : (if t169 = true then (if t168 = 0 then (some (decide (t167 ≤ t165))) else (some false)) else (some false)) = some true := H
    have A14 := Aside0.mk A140
    clear A140
    by_cases c15 : t169 = true
    ·subst c15
     have H1 : (if t168 = 0 then (some (decide (t167 ≤ t165))) else (some false)) = some true := by rw [if_pos rfl] at H; exact H
     clear H
     have H := H1
     clear H1
     by_cases c16 : t168 = 0
     ·rw [if_pos c16] at H
      have c16b0 : (t168 == 0) = true := beq_iff_eq.mpr c16
      have c16b1 : (t168 != 0) = false := bne_eq_false_iff_eq.mpr c16
      clear c16
      have HT_ := Option.some.inj H
      clear H
      (try (have HT_z_ := HT_; simp only [beq_true, beq_false, true_beq, false_beq, Bool.not_eq_true', Bool.not_eq_false', Bool.not_true, Bool.not_false] at HT_z_))
      go_wp2_with (first | ((with_reducible refine gate_callee (f := 9) rfl ?_); refine goesL_ (some 44) rfl rfl Try.func9 (by kernel_rfl) rfl #[.int .i64 a0, .int .i64 (wrap64 (a2)), .int .i64 (wrap64 (a3))] rfl (by (try simp only [List.map_toArray, List.map_cons, List.map_nil]); first | done | rfl | (simp only [List.length_drop, List.length_take]; rfl)) ?_; (with_reducible refine (purse_Part.calls kj5 a0 (wrap64 (a2)) (wrap64 (a3)) t165 t166 _ A11.out).mono ?_); rintro e w' ⟨rfl, ⟨nd, rfl⟩⟩; refine ⟨_, rfl, ?_⟩) | ((with_reducible refine gate_callee (f := 9) rfl ?_); refine goesL_ (some 56) rfl rfl Try.func9 (by kernel_rfl) rfl #[.int .i64 t165, .int .i64 (wrap64 (a2)), .int .i64 (wrap64 (a3))] rfl (by (try simp only [List.map_toArray, List.map_cons, List.map_nil]); first | done | rfl | (simp only [List.length_drop, List.length_take]; rfl)) ?_; (with_reducible refine (purse_Part.calls kj5 t165 (wrap64 (a2)) (wrap64 (a3)) t167 t168 _ A13.out).mono ?_); rintro e w' ⟨rfl, ⟨nd, rfl⟩⟩; refine ⟨_, rfl, ?_⟩) | (go_at_call 10; (with_reducible refine (paybooklaw03_awake.calls kj5  true _ A14.out).mono ?_); rintro e w' ⟨rfl, ⟨nd, rfl⟩⟩))
      go_ret
      exact ⟨by first | rfl | (simp; done) | (simp [*]; done), by repeat (first | exact Drawn0.refl _ | apply Drawn0.step)⟩
     ·rw [if_neg c16] at H
      have c16b0 : (t168 == 0) = false := beq_eq_false_iff_ne.mpr c16
      have c16b1 : (t168 != 0) = true := bne_iff_ne.mpr c16
      exact absurd H (by simp)
    ·replace c15 := Bool.eq_false_iff.mpr c15
     subst c15
     have H1 : (some false) = some true := by rw [if_neg (show ¬ (false = true) by decide)] at H; exact H
     clear H
     have H := H1
     clear H1
     exact absurd H (by simp)
   ·rw [if_neg c12] at H
    have c12b0 : (t166 == 0) = false := beq_eq_false_iff_ne.mpr c12
    have c12b1 : (t166 != 0) = true := bne_iff_ne.mpr c12
    replace H := Option.bind_eq_some_iff.mp H
    obtain ⟨t170, A170, H⟩ := H
    replace H : (some t170) = some true := H
    have A17 := Aside0.mk A170
    clear A170
    have HT_ := Option.some.inj H
    clear H
    (try (have HT_z_ := HT_; simp only [beq_true, beq_false, true_beq, false_beq, Bool.not_eq_true', Bool.not_eq_false', Bool.not_true, Bool.not_false] at HT_z_))
    go_wp2_with (first | ((with_reducible refine gate_callee (f := 9) rfl ?_); refine goesL_ (some 44) rfl rfl Try.func9 (by kernel_rfl) rfl #[.int .i64 a0, .int .i64 (wrap64 (a2)), .int .i64 (wrap64 (a3))] rfl (by (try simp only [List.map_toArray, List.map_cons, List.map_nil]); first | done | rfl | (simp only [List.length_drop, List.length_take]; rfl)) ?_; (with_reducible refine (purse_Part.calls kj5 a0 (wrap64 (a2)) (wrap64 (a3)) t165 t166 _ A11.out).mono ?_); rintro e w' ⟨rfl, ⟨nd, rfl⟩⟩; refine ⟨_, rfl, ?_⟩) | (go_at_call 10; (with_reducible refine (paybooklaw03_awake.calls kj5  t170 _ A17.out).mono ?_); rintro e w' ⟨rfl, ⟨nd, rfl⟩⟩))
    go_ret
    exact ⟨by first | rfl | (simp; done) | (simp [*]; done), by repeat (first | exact Drawn0.refl _ | apply Drawn0.step)⟩

/-- THE ONE PURE STATEMENT of paybooklaw03_PurseBack: yours. -/
def paybooklaw03_PurseBack.Pure : Prop := ∀ (a0 : Int) (a1 : Int) (a2 : Int) (a3 : Int), (Lit.int .i64 a0).wf = true → (Lit.int .i64 a1).wf = true → (Lit.int .i32 a2).wf = true → (Lit.int .i32 a3).wf = true → ∃ k, paybooklaw03_PurseBack.f k a0 a1 a2 a3 = some true
theorem paybooklaw03_PurseBack.walk (P : paybooklaw03_PurseBack.Pure) (a0 : Int) (a1 : Int) (a2 : Int) (a3 : Int) (w : World) (w0 : (Lit.int .i64 a0).wf = true) (w1 : (Lit.int .i64 a1).wf = true) (w2 : (Lit.int .i32 a2).wf = true) (w3 : (Lit.int .i32 a3).wf = true) :
  Calls Try.prog 7 #[.int .i64 a0, .int .i64 a1, .int .i32 a2, .int .i32 a3] w fun e w' => e = .returned (.bool true) ∧ Below w.heap.size w w' := by
 obtain ⟨k, h⟩ := P a0 a1 a2 a3 w0 w1 w2 w3
 refine (paybooklaw03_PurseBack.calls k a0 a1 a2 a3 w h).mono ?_
 rintro e w' ⟨rfl, hd⟩
 exact ⟨rfl, hd.below⟩

end Go.Proofs.Ytkmngemohhncaaa.PA
