-- printed by this workplace: wip/patchprint.py over the kit's print
import Derived.Test.YtkmngemohhncaaaPAx0
import Derived.Test.YtkmngemohhncaaaPAx6
import Derived.Test.YtkmngemohhncaaaPAx8
namespace Go.Proofs.Ytkmngemohhncaaa.PA
open Go.RowKit Go.Proofs.YtkmngemohhncaaaW.PrintWords Go.Proofs.YtkmngemohhncaaaW.PrintLast Go.Proofs.YtkmngemohhncaaaW.PrintMore
attribute [local go_sem] max2_int min2_int max_two min_two max_three min_three max_four min_four   -- for this text's walks alone
set_option linter.unusedVariables false
set_option linter.unusedSimpArgs false

/-! ### paybooklaw03_PurseGrows: function 5 -/
def paybooklaw03_PurseGrows.f (k : Nat) (a0 : Int) (a1 : Int) (a2 : Int) (a3 : Int) : Option (Bool) := (purse_Part.f k a0 a1 a2).bind fun bt131 => (if bt131.2 = 0 then ((purse_Part.f k a0 a2 a2).bind fun bt134 => ((purse_Part.f k a0 0 a2).bind fun bt136 => (if (wrap64 (1 + (wrap64 (a3)))) = 0 then (none) else ((purse_Part.f k (wrap64 (a0 - (wrap64 (Int.tdiv a0 (wrap64 (1 + (wrap64 (a3)))))))) a1 a2).bind fun bt138 => ((paybooklaw03_awake.f k).bind fun t140 => (if t140 = true then (if bt134.2 = 0 then (if bt134.1 = a0 then (if bt136.2 = 0 then (if bt136.1 = 0 then (if bt138.2 = 0 then (if bt138.1 ≤ bt131.1 then (some (decide (bt131.1 ≤ bt134.1))) else (some false)) else (some false)) else (some false)) else (some false)) else (some false)) else (some false)) else (some false))))))) else ((paybooklaw03_awake.f k).bind fun t133 => (if t133 = true then (some (bt131.1 == 0)) else (some false))))
theorem paybooklaw03_PurseGrows.mono : ∀ a0 a1 a2 a3 k, LeO (paybooklaw03_PurseGrows.f k a0 a1 a2 a3) (paybooklaw03_PurseGrows.f (k + 1) a0 a1 a2 a3) := by
 intro a0 a1 a2 a3 k
 unfold paybooklaw03_PurseGrows.f
 repeat' first
   | (with_reducible exact paybooklaw03_awake.mono _)
   | (with_reducible exact purse_Part.mono _ _ _ _)
   | (with_reducible exact LeO.refl _)
   | (with_reducible exact LeO.none _)
   | (with_reducible refine LeO.ite ?_ ?_)
   | (with_reducible refine LeO.bind ?_ (fun _ => ?_))
   | exact paybooklaw03_awake.mono _
   | exact purse_Part.mono _ _ _ _
   | exact LeO.none _
   | refine LeO.ite ?_ ?_
   | refine LeO.bind ?_ (fun _ => ?_)
set_option maxHeartbeats 8000000 in
set_option maxRecDepth 100000 in
theorem paybooklaw03_PurseGrows.calls (k : Nat) (a0 : Int) (a1 : Int) (a2 : Int) (a3 : Int) (w : World) (h : paybooklaw03_PurseGrows.f k a0 a1 a2 a3 = some true) :
  Calls Try.prog 5 #[.int .i64 a0, .int .i64 a1, .int .i64 a2, .int .u32 a3] w fun e w' => e = .returned (.bool true) ∧ Drawn0 w w' := by
 have H : ((purse_Part.f k a0 a1 a2).bind fun bt131 => (if bt131.2 = 0 then ((purse_Part.f k a0 a2 a2).bind fun bt134 => ((purse_Part.f k a0 0 a2).bind fun bt136 => (if (wrap64 (1 + (wrap64 (a3)))) = 0 then (none) else ((purse_Part.f k (wrap64 (a0 - (wrap64 (Int.tdiv a0 (wrap64 (1 + (wrap64 (a3)))))))) a1 a2).bind fun bt138 => ((paybooklaw03_awake.f k).bind fun t140 => (if t140 = true then (if bt134.2 = 0 then (if bt134.1 = a0 then (if bt136.2 = 0 then (if bt136.1 = 0 then (if bt138.2 = 0 then (if bt138.1 ≤ bt131.1 then (some (decide (bt131.1 ≤ bt134.1))) else (some false)) else (some false)) else (some false)) else (some false)) else (some false)) else (some false)) else (some false))))))) else ((paybooklaw03_awake.f k).bind fun t133 => (if t133 = true then (some (bt131.1 == 0)) else (some false))))) = some true := h
 clear h
 replace H := Option.bind_eq_some_iff.mp H
 obtain ⟨⟨t131, t132⟩, A50, H⟩ := H
 replace H : (if t132 = 0 then ((purse_Part.f k a0 a2 a2).bind fun bt134 => ((purse_Part.f k a0 0 a2).bind fun bt136 => (if (wrap64 (1 + (wrap64 (a3)))) = 0 then (none) else ((purse_Part.f k (wrap64 (a0 - (wrap64 (Int.tdiv a0 (wrap64 (1 + (wrap64 (a3)))))))) a1 a2).bind fun bt138 => ((paybooklaw03_awake.f k).bind fun t140 => (if t140 = true then (if bt134.2 = 0 then (if bt134.1 = a0 then (if bt136.2 = 0 then (if bt136.1 = 0 then (if bt138.2 = 0 then (if bt138.1 ≤ t131 then (some (decide (t131 ≤ bt134.1))) else (some false)) else (some false)) else (some false)) else (some false)) else (some false)) else (some false)) else (some false))))))) else ((paybooklaw03_awake.f k).bind fun t133 => (if t133 = true then (some (t131 == 0)) else (some false)))) = some true := H
 have A5 := Aside0.mk A50
 clear A50
 by_cases c6 : t132 = 0
 ·rw [if_pos c6] at H
  have c6b0 : (t132 == 0) = true := beq_iff_eq.mpr c6
  have c6b1 : (t132 != 0) = false := bne_eq_false_iff_eq.mpr c6
  clear c6
  replace H := Option.bind_eq_some_iff.mp H
  obtain ⟨⟨t134, t135⟩, A70, H⟩ := H
  replace H : ((purse_Part.f k a0 0 a2).bind fun bt136 => (if (wrap64 (1 + (wrap64 (a3)))) = 0 then (none) else ((purse_Part.f k (wrap64 (a0 - (wrap64 (Int.tdiv a0 (wrap64 (1 + (wrap64 (a3)))))))) a1 a2).bind fun bt138 => ((paybooklaw03_awake.f k).bind fun t140 => (if t140 = true then (if t135 = 0 then (if t134 = a0 then (if bt136.2 = 0 then (if bt136.1 = 0 then (if bt138.2 = 0 then (if bt138.1 ≤ t131 then (some (decide (t131 ≤ t134))) else (some false)) else (some false)) else (some false)) else (some false)) else (some false)) else (some false)) else (some false)))))) = some true := H
  have A7 := Aside0.mk A70
  clear A70
  replace H := Option.bind_eq_some_iff.mp H
  obtain ⟨⟨t136, t137⟩, A80, H⟩ := H
  replace H : (if (wrap64 (1 + (wrap64 (a3)))) = 0 then (none) else ((purse_Part.f k (wrap64 (a0 - (wrap64 (Int.tdiv a0 (wrap64 (1 + (wrap64 (a3)))))))) a1 a2).bind fun bt138 => ((paybooklaw03_awake.f k).bind fun t140 => (if t140 = true then (if t135 = 0 then (if t134 = a0 then (if t137 = 0 then (if t136 = 0 then (if bt138.2 = 0 then (if bt138.1 ≤ t131 then (some (decide (t131 ≤ t134))) else (some false)) else (some false)) else (some false)) else (some false)) else (some false)) else (some false)) else (some false))))) = some true := H
  have A8 := Aside0.mk A80
  clear A80
  by_cases c9 : (wrap64 (1 + (wrap64 (a3)))) = 0
  ·rw [if_pos c9] at H
   exact absurd H (by simp)
  ·rw [if_neg c9] at H
   have c9b0 : ((wrap64 (1 + (wrap64 (a3)))) == 0) = false := beq_eq_false_iff_ne.mpr c9
   have c9b1 : ((wrap64 (1 + (wrap64 (a3)))) != 0) = true := bne_iff_ne.mpr c9
   replace H := Option.bind_eq_some_iff.mp H
   obtain ⟨⟨t138, t139⟩, A100, H⟩ := H
   replace H : ((paybooklaw03_awake.f k).bind fun t140 => (if t140 = true then (if t135 = 0 then (if t134 = a0 then (if t137 = 0 then (if t136 = 0 then (if t139 = 0 then (if t138 ≤ t131 then (some (decide (t131 ≤ t134))) else (some false)) else (some false)) else (some false)) else (some false)) else (some false)) else (some false)) else (some false))) = some true := H
   have A10 := Aside0.mk A100
   clear A100
   replace H := Option.bind_eq_some_iff.mp H
   obtain ⟨t140, A110, H⟩ := H
   replace H : (if t140 = true then (if t135 = 0 then (if t134 = a0 then (if t137 = 0 then (if t136 = 0 then (if t139 = 0 then (if t138 ≤ t131 then (some (decide (t131 ≤ t134))) else (some false)) else (some false)) else (some false)) else (some false)) else (some false)) else (some false)) else (some false)) = some true := H
   have A11 := Aside0.mk A110
   clear A110
   by_cases c12 : t140 = true
   ·subst c12
    have H1 : (if t135 = 0 then (if t134 = a0 then (if t137 = 0 then (if t136 = 0 then (if t139 = 0 then (if t138 ≤ t131 then (some (decide (t131 ≤ t134))) else (some false)) else (some false)) else (some false)) else (some false)) else (some false)) else (some false)) = some true := by rw [if_pos rfl] at H; exact H
    clear H
    have H := H1
    clear H1
    by_cases c13 : t135 = 0
    ·rw [if_pos c13] at H
     have c13b0 : (t135 == 0) = true := beq_iff_eq.mpr c13
     have c13b1 : (t135 != 0) = false := bne_eq_false_iff_eq.mpr c13
     clear c13
     by_cases c14 : t134 = a0
     ·rw [if_pos c14] at H
      have c14b0 : (t134 == a0) = true := beq_iff_eq.mpr c14
      have c14b1 : (t134 != a0) = false := bne_eq_false_iff_eq.mpr c14
      clear c14
      by_cases c15 : t137 = 0
      ·rw [if_pos c15] at H
       have c15b0 : (t137 == 0) = true := beq_iff_eq.mpr c15
       have c15b1 : (t137 != 0) = false := bne_eq_false_iff_eq.mpr c15
       clear c15
       by_cases c16 : t136 = 0
       ·rw [if_pos c16] at H
        have c16b0 : (t136 == 0) = true := beq_iff_eq.mpr c16
        have c16b1 : (t136 != 0) = false := bne_eq_false_iff_eq.mpr c16
        clear c16
        by_cases c17 : t139 = 0
        ·rw [if_pos c17] at H
         have c17b0 : (t139 == 0) = true := beq_iff_eq.mpr c17
         have c17b1 : (t139 != 0) = false := bne_eq_false_iff_eq.mpr c17
         clear c17
         by_cases c18 : t138 ≤ t131
         ·rw [if_pos c18] at H
          have c18b0 : decide (t138 ≤ t131) = true := decide_eq_true c18
          clear c18
          have HT_ := Option.some.inj H
          clear H
          (try (have HT_z_ := HT_; simp only [beq_true, beq_false, true_beq, false_beq, Bool.not_eq_true', Bool.not_eq_false', Bool.not_true, Bool.not_false] at HT_z_))
          go_enter Try.func5, Try.ntmps5
          go_wp2_with (first | ((with_reducible refine gate_callee (f := 9) rfl ?_); refine goesL_ (some 21) rfl rfl Try.func9 (by kernel_rfl) rfl #[.int .i64 a0, .int .i64 a1, .int .i64 a2] rfl (by (try simp only [List.map_toArray, List.map_cons, List.map_nil]); first | done | rfl | (simp only [List.length_drop, List.length_take]; rfl)) ?_; (with_reducible refine (purse_Part.calls k a0 a1 a2 t131 t132 _ A5.out).mono ?_); rintro e w' ⟨rfl, ⟨nd, rfl⟩⟩; refine ⟨_, rfl, ?_⟩) | ((with_reducible refine gate_callee (f := 9) rfl ?_); refine goesL_ (some 35) rfl rfl Try.func9 (by kernel_rfl) rfl #[.int .i64 a0, .int .i64 a2, .int .i64 a2] rfl (by (try simp only [List.map_toArray, List.map_cons, List.map_nil]); first | done | rfl | (simp only [List.length_drop, List.length_take]; rfl)) ?_; (with_reducible refine (purse_Part.calls k a0 a2 a2 t134 t135 _ A7.out).mono ?_); rintro e w' ⟨rfl, ⟨nd, rfl⟩⟩; refine ⟨_, rfl, ?_⟩) | ((with_reducible refine gate_callee (f := 9) rfl ?_); refine goesL_ (some 41) rfl rfl Try.func9 (by kernel_rfl) rfl #[.int .i64 a0, .int .i64 0, .int .i64 a2] rfl (by (try simp only [List.map_toArray, List.map_cons, List.map_nil]); first | done | rfl | (simp only [List.length_drop, List.length_take]; rfl)) ?_; (with_reducible refine (purse_Part.calls k a0 0 a2 t136 t137 _ A8.out).mono ?_); rintro e w' ⟨rfl, ⟨nd, rfl⟩⟩; refine ⟨_, rfl, ?_⟩) | ((with_reducible refine gate_callee (f := 9) rfl ?_); refine goesL_ (some 54) rfl rfl Try.func9 (by kernel_rfl) rfl #[.int .i64 (wrap64 (a0 - (wrap64 (Int.tdiv a0 (wrap64 (1 + (wrap64 (a3)))))))), .int .i64 a1, .int .i64 a2] rfl (by (try simp only [List.map_toArray, List.map_cons, List.map_nil]); first | done | rfl | (simp only [List.length_drop, List.length_take]; rfl)) ?_; (with_reducible refine (purse_Part.calls k (wrap64 (a0 - (wrap64 (Int.tdiv a0 (wrap64 (1 + (wrap64 (a3)))))))) a1 a2 t138 t139 _ A10.out).mono ?_); rintro e w' ⟨rfl, ⟨nd, rfl⟩⟩; refine ⟨_, rfl, ?_⟩) | (go_at_call 10; (with_reducible refine (paybooklaw03_awake.calls k  true _ A11.out).mono ?_); rintro e w' ⟨rfl, ⟨nd, rfl⟩⟩))
          go_ret
          exact ⟨by first | rfl | (simp; done) | (simp [*]; done), by repeat (first | exact Drawn0.refl _ | apply Drawn0.step)⟩
         ·rw [if_neg c18] at H
          have c18b0 : decide (t138 ≤ t131) = false := decide_eq_false c18
          clear c18
          exact absurd H (by simp)
        ·rw [if_neg c17] at H
         have c17b0 : (t139 == 0) = false := beq_eq_false_iff_ne.mpr c17
         have c17b1 : (t139 != 0) = true := bne_iff_ne.mpr c17
         exact absurd H (by simp)
       ·rw [if_neg c16] at H
        have c16b0 : (t136 == 0) = false := beq_eq_false_iff_ne.mpr c16
        have c16b1 : (t136 != 0) = true := bne_iff_ne.mpr c16
        exact absurd H (by simp)
      ·rw [if_neg c15] at H
       have c15b0 : (t137 == 0) = false := beq_eq_false_iff_ne.mpr c15
       have c15b1 : (t137 != 0) = true := bne_iff_ne.mpr c15
       exact absurd H (by simp)
     ·rw [if_neg c14] at H
      have c14b0 : (t134 == a0) = false := beq_eq_false_iff_ne.mpr c14
      have c14b1 : (t134 != a0) = true := bne_iff_ne.mpr c14
      exact absurd H (by simp)
    ·rw [if_neg c13] at H
     have c13b0 : (t135 == 0) = false := beq_eq_false_iff_ne.mpr c13
     have c13b1 : (t135 != 0) = true := bne_iff_ne.mpr c13
     exact absurd H (by simp)
   ·replace c12 := Bool.eq_false_iff.mpr c12
    subst c12
    have H1 : (some false) = some true := by rw [if_neg (show ¬ (false = true) by decide)] at H; exact H
    clear H
    have H := H1
    clear H1
    exact absurd H (by simp)
 ·rw [if_neg c6] at H
  have c6b0 : (t132 == 0) = false := beq_eq_false_iff_ne.mpr c6
  have c6b1 : (t132 != 0) = true := bne_iff_ne.mpr c6
  replace H := Option.bind_eq_some_iff.mp H
  obtain ⟨t133, A190, H⟩ := H
  replace H : (if t133 = true then (some (t131 == 0)) else (some false)) = some true := H
  have A19 := Aside0.mk A190
  clear A190
  by_cases c20 : t133 = true
  ·subst c20
   have H1 : (some (t131 == 0)) = some true := by rw [if_pos rfl] at H; exact H
   clear H
   have H := H1
   clear H1
   have HT_ := Option.some.inj H
   clear H
   (try (have HT_z_ := HT_; simp only [beq_true, beq_false, true_beq, false_beq, Bool.not_eq_true', Bool.not_eq_false', Bool.not_true, Bool.not_false] at HT_z_))
   go_enter Try.func5, Try.ntmps5
   go_wp2_with (first | ((with_reducible refine gate_callee (f := 9) rfl ?_); refine goesL_ (some 21) rfl rfl Try.func9 (by kernel_rfl) rfl #[.int .i64 a0, .int .i64 a1, .int .i64 a2] rfl (by (try simp only [List.map_toArray, List.map_cons, List.map_nil]); first | done | rfl | (simp only [List.length_drop, List.length_take]; rfl)) ?_; (with_reducible refine (purse_Part.calls k a0 a1 a2 t131 t132 _ A5.out).mono ?_); rintro e w' ⟨rfl, ⟨nd, rfl⟩⟩; refine ⟨_, rfl, ?_⟩) | (go_at_call 10; (with_reducible refine (paybooklaw03_awake.calls k  true _ A19.out).mono ?_); rintro e w' ⟨rfl, ⟨nd, rfl⟩⟩))
   go_ret
   exact ⟨by first | rfl | (simp; done) | (simp [*]; done), by repeat (first | exact Drawn0.refl _ | apply Drawn0.step)⟩
  ·replace c20 := Bool.eq_false_iff.mpr c20
   subst c20
   have H1 : (some false) = some true := by rw [if_neg (show ¬ (false = true) by decide)] at H; exact H
   clear H
   have H := H1
   clear H1
   exact absurd H (by simp)

/-- THE ONE PURE STATEMENT of paybooklaw03_PurseGrows: yours. -/
def paybooklaw03_PurseGrows.Pure : Prop := ∀ (a0 : Int) (a1 : Int) (a2 : Int) (a3 : Int), (Lit.int .i64 a0).wf = true → (Lit.int .i64 a1).wf = true → (Lit.int .i64 a2).wf = true → (Lit.int .u32 a3).wf = true → ∃ k, paybooklaw03_PurseGrows.f k a0 a1 a2 a3 = some true
theorem paybooklaw03_PurseGrows.walk (P : paybooklaw03_PurseGrows.Pure) (a0 : Int) (a1 : Int) (a2 : Int) (a3 : Int) (w : World) (w0 : (Lit.int .i64 a0).wf = true) (w1 : (Lit.int .i64 a1).wf = true) (w2 : (Lit.int .i64 a2).wf = true) (w3 : (Lit.int .u32 a3).wf = true) :
  Calls Try.prog 5 #[.int .i64 a0, .int .i64 a1, .int .i64 a2, .int .u32 a3] w fun e w' => e = .returned (.bool true) ∧ Below w.heap.size w w' := by
 obtain ⟨k, h⟩ := P a0 a1 a2 a3 w0 w1 w2 w3
 refine (paybooklaw03_PurseGrows.calls k a0 a1 a2 a3 w h).mono ?_
 rintro e w' ⟨rfl, hd⟩
 exact ⟨rfl, hd.below⟩

end Go.Proofs.Ytkmngemohhncaaa.PA
