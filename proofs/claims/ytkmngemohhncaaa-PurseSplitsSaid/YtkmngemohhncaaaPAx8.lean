-- printed by this workplace: wip/patchprint.py over the kit's print
import Derived.Test.YtkmngemohhncaaaPAx0
import Derived.Test.YtkmngemohhncaaaPAx7
namespace Go.Proofs.Ytkmngemohhncaaa.PA
open Go.RowKit Go.Proofs.YtkmngemohhncaaaW.PrintWords Go.Proofs.YtkmngemohhncaaaW.PrintLast Go.Proofs.YtkmngemohhncaaaW.PrintMore
attribute [local go_sem] max2_int min2_int max_two min_two max_three min_three max_four min_four   -- for this text's walks alone
set_option linter.unusedVariables false
set_option linter.unusedSimpArgs false

/-! ### paybooklaw03_awake: function 10 -/
def paybooklaw03_awake.f (k : Nat)  : Option (Bool) := (purse_Share.f k 100 1 3).bind fun bt112 => (if bt112.1 = 33 then (if bt112.2.1 = 66 then (if bt112.2.2.1 = 1 then (some (bt112.2.2.2 == 0)) else (some false)) else (some false)) else (some false))
theorem paybooklaw03_awake.mono : ∀ k, LeO (paybooklaw03_awake.f k ) (paybooklaw03_awake.f (k + 1) ) := by
 intro  k
 unfold paybooklaw03_awake.f
 repeat' first
   | (with_reducible exact purse_Share.mono _ _ _ _)
   | (with_reducible exact LeO.refl _)
   | (with_reducible exact LeO.none _)
   | (with_reducible refine LeO.ite ?_ ?_)
   | (with_reducible refine LeO.bind ?_ (fun _ => ?_))
   | exact purse_Share.mono _ _ _ _
   | exact LeO.none _
   | refine LeO.ite ?_ ?_
   | refine LeO.bind ?_ (fun _ => ?_)
set_option maxHeartbeats 8000000 in
set_option maxRecDepth 100000 in
theorem paybooklaw03_awake.calls (k : Nat)  (r : Bool) (w : World) (h : paybooklaw03_awake.f k  = some r) :
  Calls Try.prog 10 #[] w fun e w' => e = .returned (.bool r) ∧ Drawn0 w w' := by
 have H : ((purse_Share.f k 100 1 3).bind fun bt112 => (if bt112.1 = 33 then (if bt112.2.1 = 66 then (if bt112.2.2.1 = 1 then (some (bt112.2.2.2 == 0)) else (some false)) else (some false)) else (some false))) = some r := h
 clear h
 replace H := Option.bind_eq_some_iff.mp H
 obtain ⟨⟨t112, t113, t114, t115⟩, A10, H⟩ := H
 replace H : (if t112 = 33 then (if t113 = 66 then (if t114 = 1 then (some (t115 == 0)) else (some false)) else (some false)) else (some false)) = some r := H
 have A1 := Aside0.mk A10
 clear A10
 by_cases c2 : t112 = 33
 ·rw [if_pos c2] at H
  have c2b0 : (t112 == 33) = true := beq_iff_eq.mpr c2
  have c2b1 : (t112 != 33) = false := bne_eq_false_iff_eq.mpr c2
  clear c2
  by_cases c3 : t113 = 66
  ·rw [if_pos c3] at H
   have c3b0 : (t113 == 66) = true := beq_iff_eq.mpr c3
   have c3b1 : (t113 != 66) = false := bne_eq_false_iff_eq.mpr c3
   clear c3
   by_cases c4 : t114 = 1
   ·rw [if_pos c4] at H
    have c4b0 : (t114 == 1) = true := beq_iff_eq.mpr c4
    have c4b1 : (t114 != 1) = false := bne_eq_false_iff_eq.mpr c4
    clear c4
    obtain rfl := Option.some.inj H
    go_enter Try.func10, Try.ntmps10
    go_wp2_with (first | ((with_reducible refine gate_callee (f := 11) rfl ?_); refine goesL_ (some 6) rfl rfl Try.func11 (by kernel_rfl) rfl #[.int .i64 100, .int .i64 1, .int .i64 3] rfl (by (try simp only [List.map_toArray, List.map_cons, List.map_nil]); first | done | rfl | (simp only [List.length_drop, List.length_take]; rfl)) ?_; (with_reducible refine (purse_Share.calls k 100 1 3 t112 t113 t114 t115 _ A1.out).mono ?_); rintro e w' ⟨rfl, ⟨nd, rfl⟩⟩; refine ⟨_, rfl, ?_⟩))
    go_ret
    exact ⟨by first | rfl | (simp; done) | (simp [*]; done), by repeat (first | exact Drawn0.refl _ | apply Drawn0.step)⟩
   ·rw [if_neg c4] at H
    have c4b0 : (t114 == 1) = false := beq_eq_false_iff_ne.mpr c4
    have c4b1 : (t114 != 1) = true := bne_iff_ne.mpr c4
    obtain rfl := Option.some.inj H
    go_enter Try.func10, Try.ntmps10
    go_wp2_with (first | ((with_reducible refine gate_callee (f := 11) rfl ?_); refine goesL_ (some 6) rfl rfl Try.func11 (by kernel_rfl) rfl #[.int .i64 100, .int .i64 1, .int .i64 3] rfl (by (try simp only [List.map_toArray, List.map_cons, List.map_nil]); first | done | rfl | (simp only [List.length_drop, List.length_take]; rfl)) ?_; (with_reducible refine (purse_Share.calls k 100 1 3 t112 t113 t114 t115 _ A1.out).mono ?_); rintro e w' ⟨rfl, ⟨nd, rfl⟩⟩; refine ⟨_, rfl, ?_⟩))
    go_ret
    exact ⟨by first | rfl | (simp; done) | (simp [*]; done), by repeat (first | exact Drawn0.refl _ | apply Drawn0.step)⟩
  ·rw [if_neg c3] at H
   have c3b0 : (t113 == 66) = false := beq_eq_false_iff_ne.mpr c3
   have c3b1 : (t113 != 66) = true := bne_iff_ne.mpr c3
   obtain rfl := Option.some.inj H
   go_enter Try.func10, Try.ntmps10
   go_wp2_with (first | ((with_reducible refine gate_callee (f := 11) rfl ?_); refine goesL_ (some 6) rfl rfl Try.func11 (by kernel_rfl) rfl #[.int .i64 100, .int .i64 1, .int .i64 3] rfl (by (try simp only [List.map_toArray, List.map_cons, List.map_nil]); first | done | rfl | (simp only [List.length_drop, List.length_take]; rfl)) ?_; (with_reducible refine (purse_Share.calls k 100 1 3 t112 t113 t114 t115 _ A1.out).mono ?_); rintro e w' ⟨rfl, ⟨nd, rfl⟩⟩; refine ⟨_, rfl, ?_⟩))
   go_ret
   exact ⟨by first | rfl | (simp; done) | (simp [*]; done), by repeat (first | exact Drawn0.refl _ | apply Drawn0.step)⟩
 ·rw [if_neg c2] at H
  have c2b0 : (t112 == 33) = false := beq_eq_false_iff_ne.mpr c2
  have c2b1 : (t112 != 33) = true := bne_iff_ne.mpr c2
  obtain rfl := Option.some.inj H
  go_enter Try.func10, Try.ntmps10
  go_wp2_with (first | ((with_reducible refine gate_callee (f := 11) rfl ?_); refine goesL_ (some 6) rfl rfl Try.func11 (by kernel_rfl) rfl #[.int .i64 100, .int .i64 1, .int .i64 3] rfl (by (try simp only [List.map_toArray, List.map_cons, List.map_nil]); first | done | rfl | (simp only [List.length_drop, List.length_take]; rfl)) ?_; (with_reducible refine (purse_Share.calls k 100 1 3 t112 t113 t114 t115 _ A1.out).mono ?_); rintro e w' ⟨rfl, ⟨nd, rfl⟩⟩; refine ⟨_, rfl, ?_⟩))
  go_ret
  exact ⟨by first | rfl | (simp; done) | (simp [*]; done), by repeat (first | exact Drawn0.refl _ | apply Drawn0.step)⟩

end Go.Proofs.Ytkmngemohhncaaa.PA
