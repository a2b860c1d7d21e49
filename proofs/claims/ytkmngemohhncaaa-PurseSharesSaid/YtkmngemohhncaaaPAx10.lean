-- printed by this workplace: wip/patchprint.py over the kit's print
import Derived.Test.YtkmngemohhncaaaPAx0
import Derived.Test.YtkmngemohhncaaaPAx6
import Derived.Test.YtkmngemohhncaaaPAx7
import Derived.Test.YtkmngemohhncaaaPAx8
namespace Go.Proofs.Ytkmngemohhncaaa.PA
open Go.RowKit Go.Proofs.YtkmngemohhncaaaW.PrintWords Go.Proofs.YtkmngemohhncaaaW.PrintLast Go.Proofs.YtkmngemohhncaaaW.PrintMore
attribute [local go_sem] max2_int min2_int max_two min_two max_three min_three max_four min_four   -- for this text's walks alone
set_option linter.unusedVariables false
set_option linter.unusedSimpArgs false

/-! ### paybooklaw03_PurseShares: function 4 -/
def paybooklaw03_PurseShares.f (k : Nat) (a0 : Int) (a1 : Int) (a2 : Int) : Option (Bool) := (purse_Share.f k a0 a1 a2).bind fun bt121 => ((purse_Part.f k a0 a1 a2).bind fun bt125 => (if bt125.2 = 0 then ((purse_Part.f k a0 (wrap64 (a2 - a1)) a2).bind fun bt127 => ((paybooklaw03_awake.f k).bind fun t129 => (if t129 = true then (if bt121.2.2.2 = 0 then (if bt127.2 = 0 then (if bt121.1 = bt125.1 then (if bt121.2.1 = bt127.1 then (if (wrap64 ((wrap64 (bt121.1 + bt121.2.1)) + bt121.2.2.1)) = a0 then (if bt121.2.2.1 = 0 then (some true) else (some (bt121.2.2.1 == 1))) else (some false)) else (some false)) else (some false)) else (some false)) else (some false)) else (some false)))) else ((paybooklaw03_awake.f k).bind fun t130 => (if t130 = true then (if bt121.2.2.2 = bt125.2 then (if bt121.1 = 0 then (if bt121.2.1 = 0 then (some (bt121.2.2.1 == 0)) else (some false)) else (some false)) else (some false)) else (some false)))))
theorem paybooklaw03_PurseShares.mono : ∀ a0 a1 a2 k, LeO (paybooklaw03_PurseShares.f k a0 a1 a2) (paybooklaw03_PurseShares.f (k + 1) a0 a1 a2) := by
 intro a0 a1 a2 k
 unfold paybooklaw03_PurseShares.f
 repeat' first
   | (with_reducible exact paybooklaw03_awake.mono _)
   | (with_reducible exact purse_Part.mono _ _ _ _)
   | (with_reducible exact purse_Share.mono _ _ _ _)
   | (with_reducible exact LeO.refl _)
   | (with_reducible exact LeO.none _)
   | (with_reducible refine LeO.ite ?_ ?_)
   | (with_reducible refine LeO.bind ?_ (fun _ => ?_))
   | exact paybooklaw03_awake.mono _
   | exact purse_Part.mono _ _ _ _
   | exact purse_Share.mono _ _ _ _
   | exact LeO.none _
   | refine LeO.ite ?_ ?_
   | refine LeO.bind ?_ (fun _ => ?_)
set_option maxHeartbeats 8000000 in
set_option maxRecDepth 100000 in
theorem paybooklaw03_PurseShares.calls (k : Nat) (a0 : Int) (a1 : Int) (a2 : Int) (w : World) (h : paybooklaw03_PurseShares.f k a0 a1 a2 = some true) :
  Calls Try.prog 4 #[.int .i64 a0, .int .i64 a1, .int .i64 a2] w fun e w' => e = .returned (.bool true) ∧ Drawn0 w w' := by
 have H : ((purse_Share.f k a0 a1 a2).bind fun bt121 => ((purse_Part.f k a0 a1 a2).bind fun bt125 => (if bt125.2 = 0 then ((purse_Part.f k a0 (wrap64 (a2 - a1)) a2).bind fun bt127 => ((paybooklaw03_awake.f k).bind fun t129 => (if t129 = true then (if bt121.2.2.2 = 0 then (if bt127.2 = 0 then (if bt121.1 = bt125.1 then (if bt121.2.1 = bt127.1 then (if (wrap64 ((wrap64 (bt121.1 + bt121.2.1)) + bt121.2.2.1)) = a0 then (if bt121.2.2.1 = 0 then (some true) else (some (bt121.2.2.1 == 1))) else (some false)) else (some false)) else (some false)) else (some false)) else (some false)) else (some false)))) else ((paybooklaw03_awake.f k).bind fun t130 => (if t130 = true then (if bt121.2.2.2 = bt125.2 then (if bt121.1 = 0 then (if bt121.2.1 = 0 then (some (bt121.2.2.1 == 0)) else (some false)) else (some false)) else (some false)) else (some false)))))) = some true := h
 clear h
 replace H := Option.bind_eq_some_iff.mp H
 obtain ⟨⟨t121, t122, t123, t124⟩, A40, H⟩ := H
 replace H : ((purse_Part.f k a0 a1 a2).bind fun bt125 => (if bt125.2 = 0 then ((purse_Part.f k a0 (wrap64 (a2 - a1)) a2).bind fun bt127 => ((paybooklaw03_awake.f k).bind fun t129 => (if t129 = true then (if t124 = 0 then (if bt127.2 = 0 then (if t121 = bt125.1 then (if t122 = bt127.1 then (if (wrap64 ((wrap64 (t121 + t122)) + t123)) = a0 then (if t123 = 0 then (some true) else (some (t123 == 1))) else (some false)) else (some false)) else (some false)) else (some false)) else (some false)) else (some false)))) else ((paybooklaw03_awake.f k).bind fun t130 => (if t130 = true then (if t124 = bt125.2 then (if t121 = 0 then (if t122 = 0 then (some (t123 == 0)) else (some false)) else (some false)) else (some false)) else (some false))))) = some true := H
 have A4 := Aside0.mk A40
 clear A40
 replace H := Option.bind_eq_some_iff.mp H
 obtain ⟨⟨t125, t126⟩, A50, H⟩ := H
 replace H : (if t126 = 0 then ((purse_Part.f k a0 (wrap64 (a2 - a1)) a2).bind fun bt127 => ((paybooklaw03_awake.f k).bind fun t129 => (if t129 = true then (if t124 = 0 then (if bt127.2 = 0 then (if t121 = t125 then (if t122 = bt127.1 then (if (wrap64 ((wrap64 (t121 + t122)) + t123)) = a0 then (if t123 = 0 then (some true) else (some (t123 == 1))) else (some false)) else (some false)) else (some false)) else (some false)) else (some false)) else (some false)))) else ((paybooklaw03_awake.f k).bind fun t130 => (if t130 = true then (if t124 = t126 then (if t121 = 0 then (if t122 = 0 then (some (t123 == 0)) else (some false)) else (some false)) else (some false)) else (some false)))) = some true := H
 have A5 := Aside0.mk A50
 clear A50
 by_cases c6 : t126 = 0
 ·rw [if_pos c6] at H
  have c6b0 : (t126 == 0) = true := beq_iff_eq.mpr c6
  have c6b1 : (t126 != 0) = false := bne_eq_false_iff_eq.mpr c6
  clear c6
  replace H := Option.bind_eq_some_iff.mp H
  obtain ⟨⟨t127, t128⟩, A70, H⟩ := H
  replace H : ((paybooklaw03_awake.f k).bind fun t129 => (if t129 = true then (if t124 = 0 then (if t128 = 0 then (if t121 = t125 then (if t122 = t127 then (if (wrap64 ((wrap64 (t121 + t122)) + t123)) = a0 then (if t123 = 0 then (some true) else (some (t123 == 1))) else (some false)) else (some false)) else (some false)) else (some false)) else (some false)) else (some false))) = some true := H
  have A7 := Aside0.mk A70
  clear A70
  replace H := Option.bind_eq_some_iff.mp H
  obtain ⟨t129, A80, H⟩ := H
  replace H : (if t129 = true then (if t124 = 0 then (if t128 = 0 then (if t121 = t125 then (if t122 = t127 then (if (wrap64 ((wrap64 (t121 + t122)) + t123)) = a0 then (if t123 = 0 then (some true) else (some (t123 == 1))) else (some false)) else (some false)) else (some false)) else (some false)) else (some false)) else (some false)) = some true := H
  have A8 := Aside0.mk A80
  clear A80
  by_cases c9 : t129 = true
  ·subst c9
   have H1 : (if t124 = 0 then (if t128 = 0 then (if t121 = t125 then (if t122 = t127 then (if (wrap64 ((wrap64 (t121 + t122)) + t123)) = a0 then (if t123 = 0 then (some true) else (some (t123 == 1))) else (some false)) else (some false)) else (some false)) else (some false)) else (some false)) = some true := by rw [if_pos rfl] at H; exact H
   clear H
   have H := H1
   clear H1
   by_cases c10 : t124 = 0
   ·rw [if_pos c10] at H
    have c10b0 : (t124 == 0) = true := beq_iff_eq.mpr c10
    have c10b1 : (t124 != 0) = false := bne_eq_false_iff_eq.mpr c10
    clear c10
    by_cases c11 : t128 = 0
    ·rw [if_pos c11] at H
     have c11b0 : (t128 == 0) = true := beq_iff_eq.mpr c11
     have c11b1 : (t128 != 0) = false := bne_eq_false_iff_eq.mpr c11
     clear c11
     by_cases c12 : t121 = t125
     ·rw [if_pos c12] at H
      have c12b0 : (t121 == t125) = true := beq_iff_eq.mpr c12
      have c12b1 : (t121 != t125) = false := bne_eq_false_iff_eq.mpr c12
      clear c12
      by_cases c13 : t122 = t127
      ·rw [if_pos c13] at H
       have c13b0 : (t122 == t127) = true := beq_iff_eq.mpr c13
       have c13b1 : (t122 != t127) = false := bne_eq_false_iff_eq.mpr c13
       clear c13
       by_cases c14 : (wrap64 ((wrap64 (t121 + t122)) + t123)) = a0
       ·rw [if_pos c14] at H
        have c14b0 : ((wrap64 ((wrap64 (t121 + t122)) + t123)) == a0) = true := beq_iff_eq.mpr c14
        have c14b1 : ((wrap64 ((wrap64 (t121 + t122)) + t123)) != a0) = false := bne_eq_false_iff_eq.mpr c14
        clear c14
        by_cases c15 : t123 = 0
        ·rw [if_pos c15] at H
         have c15b0 : (t123 == 0) = true := beq_iff_eq.mpr c15
         have c15b1 : (t123 != 0) = false := bne_eq_false_iff_eq.mpr c15
         clear c15
         clear H
         go_enter Try.func4, Try.ntmps4
         go_wp2_with (first | ((with_reducible refine gate_callee (f := 11) rfl ?_); refine goesL_ (some 19) rfl rfl Try.func11 (by kernel_rfl) rfl #[.int .i64 a0, .int .i64 a1, .int .i64 a2] rfl (by (try simp only [List.map_toArray, List.map_cons, List.map_nil]); first | done | rfl | (simp only [List.length_drop, List.length_take]; rfl)) ?_; (with_reducible refine (purse_Share.calls k a0 a1 a2 t121 t122 t123 t124 _ A4.out).mono ?_); rintro e w' ⟨rfl, ⟨nd, rfl⟩⟩; refine ⟨_, rfl, ?_⟩) | ((with_reducible refine gate_callee (f := 9) rfl ?_); refine goesL_ (some 28) rfl rfl Try.func9 (by kernel_rfl) rfl #[.int .i64 a0, .int .i64 a1, .int .i64 a2] rfl (by (try simp only [List.map_toArray, List.map_cons, List.map_nil]); first | done | rfl | (simp only [List.length_drop, List.length_take]; rfl)) ?_; (with_reducible refine (purse_Part.calls k a0 a1 a2 t125 t126 _ A5.out).mono ?_); rintro e w' ⟨rfl, ⟨nd, rfl⟩⟩; refine ⟨_, rfl, ?_⟩) | ((with_reducible refine gate_callee (f := 9) rfl ?_); refine goesL_ (some 57) rfl rfl Try.func9 (by kernel_rfl) rfl #[.int .i64 a0, .int .i64 (wrap64 (a2 - a1)), .int .i64 a2] rfl (by (try simp only [List.map_toArray, List.map_cons, List.map_nil]); first | done | rfl | (simp only [List.length_drop, List.length_take]; rfl)) ?_; (with_reducible refine (purse_Part.calls k a0 (wrap64 (a2 - a1)) a2 t127 t128 _ A7.out).mono ?_); rintro e w' ⟨rfl, ⟨nd, rfl⟩⟩; refine ⟨_, rfl, ?_⟩) | (go_at_call 10; (with_reducible refine (paybooklaw03_awake.calls k  true _ A8.out).mono ?_); rintro e w' ⟨rfl, ⟨nd, rfl⟩⟩))
         go_ret
         exact ⟨by first | rfl | (simp; done) | (simp [*]; done), by repeat (first | exact Drawn0.refl _ | apply Drawn0.step)⟩
        ·rw [if_neg c15] at H
         have c15b0 : (t123 == 0) = false := beq_eq_false_iff_ne.mpr c15
         have c15b1 : (t123 != 0) = true := bne_iff_ne.mpr c15
         have HT_ := Option.some.inj H
         clear H
         (try (have HT_z_ := HT_; simp only [beq_true, beq_false, true_beq, false_beq, Bool.not_eq_true', Bool.not_eq_false', Bool.not_true, Bool.not_false] at HT_z_))
         go_enter Try.func4, Try.ntmps4
         go_wp2_with (first | ((with_reducible refine gate_callee (f := 11) rfl ?_); refine goesL_ (some 19) rfl rfl Try.func11 (by kernel_rfl) rfl #[.int .i64 a0, .int .i64 a1, .int .i64 a2] rfl (by (try simp only [List.map_toArray, List.map_cons, List.map_nil]); first | done | rfl | (simp only [List.length_drop, List.length_take]; rfl)) ?_; (with_reducible refine (purse_Share.calls k a0 a1 a2 t121 t122 t123 t124 _ A4.out).mono ?_); rintro e w' ⟨rfl, ⟨nd, rfl⟩⟩; refine ⟨_, rfl, ?_⟩) | ((with_reducible refine gate_callee (f := 9) rfl ?_); refine goesL_ (some 28) rfl rfl Try.func9 (by kernel_rfl) rfl #[.int .i64 a0, .int .i64 a1, .int .i64 a2] rfl (by (try simp only [List.map_toArray, List.map_cons, List.map_nil]); first | done | rfl | (simp only [List.length_drop, List.length_take]; rfl)) ?_; (with_reducible refine (purse_Part.calls k a0 a1 a2 t125 t126 _ A5.out).mono ?_); rintro e w' ⟨rfl, ⟨nd, rfl⟩⟩; refine ⟨_, rfl, ?_⟩) | ((with_reducible refine gate_callee (f := 9) rfl ?_); refine goesL_ (some 57) rfl rfl Try.func9 (by kernel_rfl) rfl #[.int .i64 a0, .int .i64 (wrap64 (a2 - a1)), .int .i64 a2] rfl (by (try simp only [List.map_toArray, List.map_cons, List.map_nil]); first | done | rfl | (simp only [List.length_drop, List.length_take]; rfl)) ?_; (with_reducible refine (purse_Part.calls k a0 (wrap64 (a2 - a1)) a2 t127 t128 _ A7.out).mono ?_); rintro e w' ⟨rfl, ⟨nd, rfl⟩⟩; refine ⟨_, rfl, ?_⟩) | (go_at_call 10; (with_reducible refine (paybooklaw03_awake.calls k  true _ A8.out).mono ?_); rintro e w' ⟨rfl, ⟨nd, rfl⟩⟩))
         go_ret
         exact ⟨by first | rfl | (simp; done) | (simp [*]; done), by repeat (first | exact Drawn0.refl _ | apply Drawn0.step)⟩
       ·rw [if_neg c14] at H
        have c14b0 : ((wrap64 ((wrap64 (t121 + t122)) + t123)) == a0) = false := beq_eq_false_iff_ne.mpr c14
        have c14b1 : ((wrap64 ((wrap64 (t121 + t122)) + t123)) != a0) = true := bne_iff_ne.mpr c14
        exact absurd H (by simp)
      ·rw [if_neg c13] at H
       have c13b0 : (t122 == t127) = false := beq_eq_false_iff_ne.mpr c13
       have c13b1 : (t122 != t127) = true := bne_iff_ne.mpr c13
       exact absurd H (by simp)
     ·rw [if_neg c12] at H
      have c12b0 : (t121 == t125) = false := beq_eq_false_iff_ne.mpr c12
      have c12b1 : (t121 != t125) = true := bne_iff_ne.mpr c12
      exact absurd H (by simp)
    ·rw [if_neg c11] at H
     have c11b0 : (t128 == 0) = false := beq_eq_false_iff_ne.mpr c11
     have c11b1 : (t128 != 0) = true := bne_iff_ne.mpr c11
     exact absurd H (by simp)
   ·rw [if_neg c10] at H
    have c10b0 : (t124 == 0) = false := beq_eq_false_iff_ne.mpr c10
    have c10b1 : (t124 != 0) = true := bne_iff_ne.mpr c10
    exact absurd H (by simp)
  ·replace c9 := Bool.eq_false_iff.mpr c9
   subst c9
   have H1 : (some false) = some true := by rw [if_neg (show ¬ (false = true) by decide)] at H; exact H
   clear H
   have H := H1
   clear H1
   exact absurd H (by simp)
 ·rw [if_neg c6] at H
  have c6b0 : (t126 == 0) = false := beq_eq_false_iff_ne.mpr c6
  have c6b1 : (t126 != 0) = true := bne_iff_ne.mpr c6
  replace H := Option.bind_eq_some_iff.mp H
  obtain ⟨t130, A160, H⟩ := H
  replace H : (if t130 = true then (if t124 = t126 then (if t121 = 0 then (if t122 = 0 then (some (t123 == 0)) else (some false)) else (some false)) else (some false)) else (some false)) = some true := H
  have A16 := Aside0.mk A160
  clear A160
  by_cases c17 : t130 = true
  ·subst c17
   have H1 : (if t124 = t126 then (if t121 = 0 then (if t122 = 0 then (some (t123 == 0)) else (some false)) else (some false)) else (some false)) = some true := by rw [if_pos rfl] at H; exact H
   clear H
   have H := H1
   clear H1
   by_cases c18 : t124 = t126
   ·rw [if_pos c18] at H
    have c18b0 : (t124 == t126) = true := beq_iff_eq.mpr c18
    have c18b1 : (t124 != t126) = false := bne_eq_false_iff_eq.mpr c18
    clear c18
    by_cases c19 : t121 = 0
    ·rw [if_pos c19] at H
     have c19b0 : (t121 == 0) = true := beq_iff_eq.mpr c19
     have c19b1 : (t121 != 0) = false := bne_eq_false_iff_eq.mpr c19
     clear c19
     by_cases c20 : t122 = 0
     ·rw [if_pos c20] at H
      have c20b0 : (t122 == 0) = true := beq_iff_eq.mpr c20
      have c20b1 : (t122 != 0) = false := bne_eq_false_iff_eq.mpr c20
      clear c20
      have HT_ := Option.some.inj H
      clear H
      (try (have HT_z_ := HT_; simp only [beq_true, beq_false, true_beq, false_beq, Bool.not_eq_true', Bool.not_eq_false', Bool.not_true, Bool.not_false] at HT_z_))
      go_enter Try.func4, Try.ntmps4
      go_wp2_with (first | ((with_reducible refine gate_callee (f := 11) rfl ?_); refine goesL_ (some 19) rfl rfl Try.func11 (by kernel_rfl) rfl #[.int .i64 a0, .int .i64 a1, .int .i64 a2] rfl (by (try simp only [List.map_toArray, List.map_cons, List.map_nil]); first | done | rfl | (simp only [List.length_drop, List.length_take]; rfl)) ?_; (with_reducible refine (purse_Share.calls k a0 a1 a2 t121 t122 t123 t124 _ A4.out).mono ?_); rintro e w' ⟨rfl, ⟨nd, rfl⟩⟩; refine ⟨_, rfl, ?_⟩) | ((with_reducible refine gate_callee (f := 9) rfl ?_); refine goesL_ (some 28) rfl rfl Try.func9 (by kernel_rfl) rfl #[.int .i64 a0, .int .i64 a1, .int .i64 a2] rfl (by (try simp only [List.map_toArray, List.map_cons, List.map_nil]); first | done | rfl | (simp only [List.length_drop, List.length_take]; rfl)) ?_; (with_reducible refine (purse_Part.calls k a0 a1 a2 t125 t126 _ A5.out).mono ?_); rintro e w' ⟨rfl, ⟨nd, rfl⟩⟩; refine ⟨_, rfl, ?_⟩) | (go_at_call 10; (with_reducible refine (paybooklaw03_awake.calls k  true _ A16.out).mono ?_); rintro e w' ⟨rfl, ⟨nd, rfl⟩⟩))
      go_ret
      exact ⟨by first | rfl | (simp; done) | (simp [*]; done), by repeat (first | exact Drawn0.refl _ | apply Drawn0.step)⟩
     ·rw [if_neg c20] at H
      have c20b0 : (t122 == 0) = false := beq_eq_false_iff_ne.mpr c20
      have c20b1 : (t122 != 0) = true := bne_iff_ne.mpr c20
      exact absurd H (by simp)
    ·rw [if_neg c19] at H
     have c19b0 : (t121 == 0) = false := beq_eq_false_iff_ne.mpr c19
     have c19b1 : (t121 != 0) = true := bne_iff_ne.mpr c19
     exact absurd H (by simp)
   ·rw [if_neg c18] at H
    have c18b0 : (t124 == t126) = false := beq_eq_false_iff_ne.mpr c18
    have c18b1 : (t124 != t126) = true := bne_iff_ne.mpr c18
    exact absurd H (by simp)
  ·replace c17 := Bool.eq_false_iff.mpr c17
   subst c17
   have H1 : (some false) = some true := by rw [if_neg (show ¬ (false = true) by decide)] at H; exact H
   clear H
   have H := H1
   clear H1
   exact absurd H (by simp)

/-- THE ONE PURE STATEMENT of paybooklaw03_PurseShares: yours. -/
def paybooklaw03_PurseShares.Pure : Prop := ∀ (a0 : Int) (a1 : Int) (a2 : Int), (Lit.int .i64 a0).wf = true → (Lit.int .i64 a1).wf = true → (Lit.int .i64 a2).wf = true → ∃ k, paybooklaw03_PurseShares.f k a0 a1 a2 = some true
theorem paybooklaw03_PurseShares.walk (P : paybooklaw03_PurseShares.Pure) (a0 : Int) (a1 : Int) (a2 : Int) (w : World) (w0 : (Lit.int .i64 a0).wf = true) (w1 : (Lit.int .i64 a1).wf = true) (w2 : (Lit.int .i64 a2).wf = true) :
  Calls Try.prog 4 #[.int .i64 a0, .int .i64 a1, .int .i64 a2] w fun e w' => e = .returned (.bool true) ∧ Below w.heap.size w w' := by
 obtain ⟨k, h⟩ := P a0 a1 a2 w0 w1 w2
 refine (paybooklaw03_PurseShares.calls k a0 a1 a2 w h).mono ?_
 rintro e w' ⟨rfl, hd⟩
 exact ⟨rfl, hd.below⟩

end Go.Proofs.Ytkmngemohhncaaa.PA
