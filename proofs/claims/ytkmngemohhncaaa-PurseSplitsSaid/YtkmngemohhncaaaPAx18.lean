-- printed by this workplace: wip/patchprint.py over the kit's print
import Derived.Test.YtkmngemohhncaaaPAx0
import Derived.Test.YtkmngemohhncaaaPAx8
import Derived.Test.YtkmngemohhncaaaPAx17
namespace Go.Proofs.Ytkmngemohhncaaa.PA
open Go.RowKit Go.Proofs.YtkmngemohhncaaaW.PrintWords Go.Proofs.YtkmngemohhncaaaW.PrintLast Go.Proofs.YtkmngemohhncaaaW.PrintMore
attribute [local go_sem] max2_int min2_int max_two min_two max_three min_three max_four min_four   -- for this text's walks alone
set_option linter.unusedVariables false
set_option linter.unusedSimpArgs false

/-! ### paybooklaw03_PurseSplits: function 8 -/
mutual
def paybooklaw03_PurseSplits.j0 : Nat → Int → Int → List Int → Int → Bool → Option (Bool)
 | 0, _, _, _, _, _ => none
 | k + 1, x0, x1, x5, x6, x20 => if x20 = true then ((paybooklaw03_awake.f k).bind fun t182 => (if t182 = true then (if x6 = 9 then (some ((x5.length : Int) == 0)) else (some false)) else (some false))) else (if x1 < 1 then (paybooklaw03_PurseSplits.j1 k x0 x1 x5 x6 true) else (paybooklaw03_PurseSplits.j1 k x0 x1 x5 x6 (decide (x1 > 1000))))
def paybooklaw03_PurseSplits.j1 : Nat → Int → Int → List Int → Int → Bool → Option (Bool)
 | 0, _, _, _, _, _ => none
 | k + 1, x0, x1, x5, x6, x36 => if x36 = true then ((paybooklaw03_awake.f k).bind fun t183 => (if t183 = true then (if ((x6 == 1) == (decide (x1 < 1))) = true then (if ((x6 == 6) == (decide (x1 > 1000))) = true then (some ((x5.length : Int) == 0)) else (some false)) else (some false)) else (some false))) else (paybooklaw03_PurseSplits.l0 k x0 x1 x5 x6 0 0)
def paybooklaw03_PurseSplits.l0 : Nat → Int → Int → List Int → Int → Int → Int → Option (Bool)
 | 0, _, _, _, _, _, _ => none
 | k + 1, x0, x1, x5, x6, x7, x8 => if x8 < (x5.length : Int) then (if 0 ≤ x8 then (if x1 = 0 then (none) else (if (rd x5 x8) < (wrap64 (Int.tdiv x0 x1)) then (some false) else (if (rd x5 x8) > (wrap64 ((wrap64 (Int.tdiv x0 x1)) + 1)) then (some false) else (if x8 > 0 then (if 0 ≤ (wrap64 (x8 - 1)) then (if (wrap64 (x8 - 1)) < (x5.length : Int) then (if (rd x5 x8) > (rd x5 (wrap64 (x8 - 1))) then (some false) else (paybooklaw03_PurseSplits.l0 k x0 x1 x5 x6 (wrap64 (x7 + (rd x5 x8))) (wrap64 (x8 + 1)))) else (none)) else (none)) else (paybooklaw03_PurseSplits.l0 k x0 x1 x5 x6 (wrap64 (x7 + (rd x5 x8))) (wrap64 (x8 + 1))))))) else (none)) else ((paybooklaw03_awake.f k).bind fun t189 => (if t189 = true then (if x6 = 0 then (if (x5.length : Int) = x1 then (some (x7 == x0)) else (some false)) else (some false)) else (some false)))
end
def paybooklaw03_PurseSplits.f (k : Nat) (a0 : Int) (a1 : Int) : Option (Bool) := (purse_Split.f k a0 a1).bind fun bt178 => (if a0 < 0 then (paybooklaw03_PurseSplits.j0 k a0 a1 bt178.1 bt178.2 true) else (paybooklaw03_PurseSplits.j0 k a0 a1 bt178.1 bt178.2 (decide (a0 > 1125899906842624))))
theorem paybooklaw03_PurseSplits.mono_l : ∀ k, (∀ y0 y1 y2 y3 y4, LeO (paybooklaw03_PurseSplits.j0 k y0 y1 y2 y3 y4) (paybooklaw03_PurseSplits.j0 (k + 1) y0 y1 y2 y3 y4)) ∧ (∀ y0 y1 y2 y3 y4, LeO (paybooklaw03_PurseSplits.j1 k y0 y1 y2 y3 y4) (paybooklaw03_PurseSplits.j1 (k + 1) y0 y1 y2 y3 y4)) ∧ (∀ y0 y1 y2 y3 y4 y5, LeO (paybooklaw03_PurseSplits.l0 k y0 y1 y2 y3 y4 y5) (paybooklaw03_PurseSplits.l0 (k + 1) y0 y1 y2 y3 y4 y5))
 | 0 => ⟨fun _ _ _ _ _ r h => by simp [paybooklaw03_PurseSplits.j0] at h, fun _ _ _ _ _ r h => by simp [paybooklaw03_PurseSplits.j1] at h, fun _ _ _ _ _ _ r h => by simp [paybooklaw03_PurseSplits.l0] at h⟩
 | k + 1 => by
  obtain ⟨ih0, ih1, ih2⟩ := paybooklaw03_PurseSplits.mono_l k
  refine ⟨?_, ?_, ?_⟩
  ·intro y0 y1 y2 y3 y4
   unfold paybooklaw03_PurseSplits.j0
   repeat' first
   | (with_reducible exact ih0 _ _ _ _ _)
   | (with_reducible exact ih1 _ _ _ _ _)
   | (with_reducible exact ih2 _ _ _ _ _ _)
   | (with_reducible exact paybooklaw03_awake.mono _)
   | (with_reducible exact purse_Split.mono _ _ _)
   | (with_reducible exact LeO.refl _)
   | (with_reducible exact LeO.none _)
   | (with_reducible refine LeO.ite ?_ ?_)
   | (with_reducible refine LeO.bind ?_ (fun _ => ?_))
   | exact ih0 _ _ _ _ _
   | exact ih1 _ _ _ _ _
   | exact ih2 _ _ _ _ _ _
   | exact paybooklaw03_awake.mono _
   | exact purse_Split.mono _ _ _
   | exact LeO.none _
   | refine LeO.ite ?_ ?_
   | refine LeO.bind ?_ (fun _ => ?_)
  ·intro y0 y1 y2 y3 y4
   unfold paybooklaw03_PurseSplits.j1
   repeat' first
   | (with_reducible exact ih0 _ _ _ _ _)
   | (with_reducible exact ih1 _ _ _ _ _)
   | (with_reducible exact ih2 _ _ _ _ _ _)
   | (with_reducible exact paybooklaw03_awake.mono _)
   | (with_reducible exact purse_Split.mono _ _ _)
   | (with_reducible exact LeO.refl _)
   | (with_reducible exact LeO.none _)
   | (with_reducible refine LeO.ite ?_ ?_)
   | (with_reducible refine LeO.bind ?_ (fun _ => ?_))
   | exact ih0 _ _ _ _ _
   | exact ih1 _ _ _ _ _
   | exact ih2 _ _ _ _ _ _
   | exact paybooklaw03_awake.mono _
   | exact purse_Split.mono _ _ _
   | exact LeO.none _
   | refine LeO.ite ?_ ?_
   | refine LeO.bind ?_ (fun _ => ?_)
  ·intro y0 y1 y2 y3 y4 y5
   unfold paybooklaw03_PurseSplits.l0
   repeat' first
   | (with_reducible exact ih0 _ _ _ _ _)
   | (with_reducible exact ih1 _ _ _ _ _)
   | (with_reducible exact ih2 _ _ _ _ _ _)
   | (with_reducible exact paybooklaw03_awake.mono _)
   | (with_reducible exact purse_Split.mono _ _ _)
   | (with_reducible exact LeO.refl _)
   | (with_reducible exact LeO.none _)
   | (with_reducible refine LeO.ite ?_ ?_)
   | (with_reducible refine LeO.bind ?_ (fun _ => ?_))
   | exact ih0 _ _ _ _ _
   | exact ih1 _ _ _ _ _
   | exact ih2 _ _ _ _ _ _
   | exact paybooklaw03_awake.mono _
   | exact purse_Split.mono _ _ _
   | exact LeO.none _
   | refine LeO.ite ?_ ?_
   | refine LeO.bind ?_ (fun _ => ?_)
theorem paybooklaw03_PurseSplits.mono : ∀ a0 a1 k, LeO (paybooklaw03_PurseSplits.f k a0 a1) (paybooklaw03_PurseSplits.f (k + 1) a0 a1) := by
 intro a0 a1 k
 obtain ⟨ih0, ih1, ih2⟩ := paybooklaw03_PurseSplits.mono_l k
 unfold paybooklaw03_PurseSplits.f
 repeat' first
   | (with_reducible exact ih0 _ _ _ _ _)
   | (with_reducible exact ih1 _ _ _ _ _)
   | (with_reducible exact ih2 _ _ _ _ _ _)
   | (with_reducible exact paybooklaw03_awake.mono _)
   | (with_reducible exact purse_Split.mono _ _ _)
   | (with_reducible exact LeO.refl _)
   | (with_reducible exact LeO.none _)
   | (with_reducible refine LeO.ite ?_ ?_)
   | (with_reducible refine LeO.bind ?_ (fun _ => ?_))
   | exact ih0 _ _ _ _ _
   | exact ih1 _ _ _ _ _
   | exact ih2 _ _ _ _ _ _
   | exact paybooklaw03_awake.mono _
   | exact purse_Split.mono _ _ _
   | exact LeO.none _
   | refine LeO.ite ?_ ?_
   | refine LeO.bind ?_ (fun _ => ?_)
set_option maxHeartbeats 8000000 in
set_option maxRecDepth 100000 in
theorem paybooklaw03_PurseSplits.calls (k : Nat) (a0 : Int) (a1 : Int) (w : World) (h : paybooklaw03_PurseSplits.f k a0 a1 = some true) :
  Calls Try.prog 8 #[.int .i64 a0, .int .i64 a1] w fun e w' => e = .returned (.bool true) ∧ Below w.heap.size w w' := by
 have HB := Aside0.mk (Below.refl w.heap.size w)
 have H : ((purse_Split.f k a0 a1).bind fun bt178 => (if a0 < 0 then (paybooklaw03_PurseSplits.j0 k a0 a1 bt178.1 bt178.2 true) else (paybooklaw03_PurseSplits.j0 k a0 a1 bt178.1 bt178.2 (decide (a0 > 1125899906842624))))) = some true := h
 clear h
 replace H := Option.bind_eq_some_iff.mp H
 obtain ⟨⟨t178, t179⟩, A30, H⟩ := H
 replace H : (if a0 < 0 then (paybooklaw03_PurseSplits.j0 k a0 a1 t178 t179 true) else (paybooklaw03_PurseSplits.j0 k a0 a1 t178 t179 (decide (a0 > 1125899906842624)))) = some true := H
 have A3 := Aside0.mk A30
 clear A30
 have HC4 := Aside0.mk H
 clear H
 go_enter Try.func8, Try.ntmps8
 go_upto_region 2 with (first | (go_at_call 16; (with_reducible refine (purse_Split.calls k a0 a1 t178 t179 _ A3.out).mono ?_); rintro e w5 ⟨v180, rfl, ho0, hb⟩; have n0_ := Aside0.mk (Kd.R_lower ho0 (below_size (by repeat (first | (with_reducible first | exact HB.out | apply below_alloc | apply pw_below_drewN | apply below_drew1) | exact HB.out)))); have n1_ := Aside0.mk (below_step (by repeat (first | (with_reducible first | exact HB.out | apply below_alloc | apply pw_below_drewN | apply below_drew1) | exact HB.out)) hb); clear HB; have HO181 := n0_; have HB := n1_; clear n0_ n1_; (try clear hb); (try clear hb2); (try clear hk); (try clear hi); (try clear ho0)))
 repeat (go_quiet (first | (go_at_call 16; (with_reducible refine (purse_Split.calls k a0 a1 t178 t179 _ A3.out).mono ?_); rintro e w5 ⟨v180, rfl, ho0, hb⟩; have n0_ := Aside0.mk (Kd.R_lower ho0 (below_size (by repeat (first | (with_reducible first | exact HB.out | apply below_alloc | apply pw_below_drewN | apply below_drew1) | exact HB.out)))); have n1_ := Aside0.mk (below_step (by repeat (first | (with_reducible first | exact HB.out | apply below_alloc | apply pw_below_drewN | apply below_drew1) | exact HB.out)) hb); clear HB; have HO181 := n0_; have HB := n1_; clear n0_ n1_; (try clear hb); (try clear hb2); (try clear hk); (try clear hi); (try clear ho0))); go_upto_region 2 with (first | (go_at_call 16; (with_reducible refine (purse_Split.calls k a0 a1 t178 t179 _ A3.out).mono ?_); rintro e w5 ⟨v180, rfl, ho0, hb⟩; have n0_ := Aside0.mk (Kd.R_lower ho0 (below_size (by repeat (first | (with_reducible first | exact HB.out | apply below_alloc | apply pw_below_drewN | apply below_drew1) | exact HB.out)))); have n1_ := Aside0.mk (below_step (by repeat (first | (with_reducible first | exact HB.out | apply below_alloc | apply pw_below_drewN | apply below_drew1) | exact HB.out)) hb); clear HB; have HO181 := n0_; have HB := n1_; clear n0_ n1_; (try clear hb); (try clear hb2); (try clear hk); (try clear hi); (try clear ho0))))
 (try simp only [Act.put, List.setIfInBounds_toArray, List.set_cons_zero, List.set_cons_succ])
 go_cut [20] (fun v20 wc => ∃ (kq : Nat) (x20_3 : Bool), v20 = .bool x20_3 ∧ Aside0 (paybooklaw03_PurseSplits.j0 kq a0 a1 t178 t179 x20_3 = some true) ∧ Aside0 (kq ≤ k) ∧ Aside0 (Kd.R (Kd.int .i64) 2 wc w.heap.size (fun _ => True) v180 t178) ∧ Aside0 (Below w.heap.size w wc))
 case first =>
  have H := HC4.out
  clear HC4
  by_cases c6 : a0 < 0
  ·rw [if_pos c6] at H
   have c6b0 : decide (a0 < 0) = true := decide_eq_true c6
   clear c6
   (first | (generalize hg_ : decide (a0 < 0) = bg_ at *; subst c6b0; have c6b0 := hg_; clear hg_) | rw [c6b0] | (simp only [i64_w, i32_w]; rw [c6b0]) | skip)
   have H' := Aside0.mk H
   clear H
   go_wp2
   repeat (go_quiet (fail); try go_wp2)
   go_meet
   case rel => exact ⟨_, (true), (by first | rfl | (simp; done) | (simp [*]; done)), H', ⟨by first | omega | exact Nat.le_refl _⟩, ⟨by (with_reducible repeat (first | apply Kd.R_alloc | apply Kd.R_drewN | apply Kd.R_drew)); exact HO181.out⟩, ⟨by repeat (first | (with_reducible first | exact HB.out | apply below_alloc | apply pw_below_drewN | apply below_drew1) | exact HB.out)⟩⟩
  ·rw [if_neg c6] at H
   have c6b0 : decide (a0 < 0) = false := decide_eq_false c6
   clear c6
   (first | (generalize hg_ : decide (a0 < 0) = bg_ at *; subst c6b0; have c6b0 := hg_; clear hg_) | rw [c6b0] | (simp only [i64_w, i32_w]; rw [c6b0]) | skip)
   have H' := Aside0.mk H
   clear H
   go_wp2
   repeat (go_quiet (fail); try go_wp2)
   go_meet
   case rel => exact ⟨_, (decide (a0 > 1125899906842624)), (by first | rfl | (simp; done) | (simp [*]; done)), H', ⟨by first | omega | exact Nat.le_refl _⟩, ⟨by (with_reducible repeat (first | apply Kd.R_alloc | apply Kd.R_drewN | apply Kd.R_drew)); exact HO181.out⟩, ⟨by repeat (first | (with_reducible first | exact HB.out | apply below_alloc | apply pw_below_drewN | apply below_drew1) | exact HB.out)⟩⟩
 case rest =>
  clear HC4
  try clear p2
  try clear c6
  try clear c6b0
  obtain ⟨kq, x20_3, rfl, HA, HJ3, HO_5, HB⟩ := hcut
  cases kq with
  | zero => exact absurd HA.out (by simp [paybooklaw03_PurseSplits.j0])
  | succ kj3 =>
   have H := HA.out
   clear HA
   simp only [paybooklaw03_PurseSplits.j0] at H
   by_cases c7 : x20_3 = true
   ·subst c7
    have H1 : ((paybooklaw03_awake.f kj3).bind fun t182 => (if t182 = true then (if t179 = 9 then (some ((t178.length : Int) == 0)) else (some false)) else (some false))) = some true := by rw [if_pos rfl] at H; exact H
    clear H
    have H := H1
    clear H1
    replace H := Option.bind_eq_some_iff.mp H
    obtain ⟨t182, A80, H⟩ := H
    replace H : (if t182 = true then (if t179 = 9 then (some ((t178.length : Int) == 0)) else (some false)) else (some false)) = some true := H
    have A8 := Aside0.mk A80
    clear A80
    by_cases c9 : t182 = true
    ·subst c9
     have H1 : (if t179 = 9 then (some ((t178.length : Int) == 0)) else (some false)) = some true := by rw [if_pos rfl] at H; exact H
     clear H
     have H := H1
     clear H1
     by_cases c10 : t179 = 9
     ·rw [if_pos c10] at H
      have c10b0 : (t179 == 9) = true := beq_iff_eq.mpr c10
      have c10b1 : (t179 != 9) = false := bne_eq_false_iff_eq.mpr c10
      clear c10
      have HT_ := Option.some.inj H
      clear H
      (try (have HT_z_ := HT_; simp only [beq_true, beq_false, true_beq, false_beq, Bool.not_eq_true', Bool.not_eq_false', Bool.not_true, Bool.not_false] at HT_z_))
      go_wp2_with (first | (go_at_call 10; (with_reducible refine (paybooklaw03_awake.calls kj3  true _ A8.out).mono ?_); rintro e w' ⟨rfl, ⟨nd, rfl⟩⟩; (try first | exact ⟨rfl, _, World.drewN_drewN _ _ _⟩ | exact ⟨rfl, _, Eq.trans (World.drewN_drewN _ _ _) (congrArg (World.drewN _) (Nat.add_assoc _ _ _))⟩); obtain ⟨Ao11, co11, eo11⟩ := Kd.R_slice HO_5.out; subst eo11))
      repeat (go_quiet (first | (go_at_call 10; (with_reducible refine (paybooklaw03_awake.calls kj3  true _ A8.out).mono ?_); rintro e w' ⟨rfl, ⟨nd, rfl⟩⟩; (try first | exact ⟨rfl, _, World.drewN_drewN _ _ _⟩ | exact ⟨rfl, _, Eq.trans (World.drewN_drewN _ _ _) (congrArg (World.drewN _) (Nat.add_assoc _ _ _))⟩); obtain ⟨Ao11, co11, eo11⟩ := Kd.R_slice HO_5.out; subst eo11)); try go_wp2_with (first | (go_at_call 10; (with_reducible refine (paybooklaw03_awake.calls kj3  true _ A8.out).mono ?_); rintro e w' ⟨rfl, ⟨nd, rfl⟩⟩; (try first | exact ⟨rfl, _, World.drewN_drewN _ _ _⟩ | exact ⟨rfl, _, Eq.trans (World.drewN_drewN _ _ _) (congrArg (World.drewN _) (Nat.add_assoc _ _ _))⟩); obtain ⟨Ao11, co11, eo11⟩ := Kd.R_slice HO_5.out; subst eo11)))
      go_ret
      exact ⟨by first | rfl | (simp [errW_none, errW_some] <;> rfl) | (simp [*, errW_none, errW_some] <;> rfl), by repeat (first | (with_reducible first | exact HB.out | apply below_alloc | apply pw_below_drewN | apply below_drew1) | exact HB.out)⟩
     ·rw [if_neg c10] at H
      have c10b0 : (t179 == 9) = false := beq_eq_false_iff_ne.mpr c10
      have c10b1 : (t179 != 9) = true := bne_iff_ne.mpr c10
      exact absurd H (by simp)
    ·replace c9 := Bool.eq_false_iff.mpr c9
     subst c9
     have H1 : (some false) = some true := by rw [if_neg (show ¬ (false = true) by decide)] at H; exact H
     clear H
     have H := H1
     clear H1
     exact absurd H (by simp)
   ·replace c7 := Bool.eq_false_iff.mpr c7
    subst c7
    have H1 : (if a1 < 1 then (paybooklaw03_PurseSplits.j1 kj3 a0 a1 t178 t179 true) else (paybooklaw03_PurseSplits.j1 kj3 a0 a1 t178 t179 (decide (a1 > 1000)))) = some true := by rw [if_neg (show ¬ (false = true) by decide)] at H; exact H
    clear H
    have H := H1
    clear H1
    have HC12 := Aside0.mk H
    clear H
    go_upto_region 4 with (fail)
    repeat (go_quiet (fail); go_upto_region 4 with (fail))
    go_cut [36] (fun v36 wc => ∃ (kq : Nat) (x36_11 : Bool), v36 = .bool x36_11 ∧ Aside0 (paybooklaw03_PurseSplits.j1 kq a0 a1 t178 t179 x36_11 = some true) ∧ Aside0 (kq ≤ kj3) ∧ Aside0 (Kd.R (Kd.int .i64) 2 wc w.heap.size (fun _ => True) v180 t178) ∧ Aside0 (Below w.heap.size w wc))
    case first =>
     have H := HC12.out
     clear HC12
     by_cases c13 : a1 < 1
     ·rw [if_pos c13] at H
      have c13b0 : decide (a1 < 1) = true := decide_eq_true c13
      clear c13
      (first | (generalize hg_ : decide (a1 < 1) = bg_ at *; subst c13b0; have c13b0 := hg_; clear hg_) | rw [c13b0] | (simp only [i64_w, i32_w]; rw [c13b0]) | skip)
      have H' := Aside0.mk H
      clear H
      go_wp2
      repeat (go_quiet (fail); try go_wp2)
      go_meet
      case rel => exact ⟨_, (true), (by first | rfl | (simp; done) | (simp [*]; done)), H', ⟨by have := HJ3.out; first | omega | exact Nat.le_refl _⟩, ⟨by (with_reducible repeat (first | apply Kd.R_alloc | apply Kd.R_drewN | apply Kd.R_drew)); exact HO_5.out⟩, ⟨by repeat (first | (with_reducible first | exact HB.out | apply below_alloc | apply pw_below_drewN | apply below_drew1) | exact HB.out)⟩⟩
     ·rw [if_neg c13] at H
      have c13b0 : decide (a1 < 1) = false := decide_eq_false c13
      clear c13
      (first | (generalize hg_ : decide (a1 < 1) = bg_ at *; subst c13b0; have c13b0 := hg_; clear hg_) | rw [c13b0] | (simp only [i64_w, i32_w]; rw [c13b0]) | skip)
      have H' := Aside0.mk H
      clear H
      go_wp2
      repeat (go_quiet (fail); try go_wp2)
      go_meet
      case rel => exact ⟨_, (decide (a1 > 1000)), (by first | rfl | (simp; done) | (simp [*]; done)), H', ⟨by have := HJ3.out; first | omega | exact Nat.le_refl _⟩, ⟨by (with_reducible repeat (first | apply Kd.R_alloc | apply Kd.R_drewN | apply Kd.R_drew)); exact HO_5.out⟩, ⟨by repeat (first | (with_reducible first | exact HB.out | apply below_alloc | apply pw_below_drewN | apply below_drew1) | exact HB.out)⟩⟩
    case rest =>
     clear HC12
     try clear c1
     try clear p2
     try clear c6
     try clear c6b0
     try clear c7
     try clear c8
     try clear c9
     try clear c10
     try clear c10b0
     try clear c10b1
     try clear c13
     try clear c13b0
     try clear p2
     obtain ⟨kq, x36_11, rfl, HA, HJ11, HO_5, HB⟩ := hcut
     cases kq with
     | zero => exact absurd HA.out (by simp [paybooklaw03_PurseSplits.j1])
     | succ kj11 =>
      have H := HA.out
      clear HA
      simp only [paybooklaw03_PurseSplits.j1] at H
      by_cases c14 : x36_11 = true
      ·subst c14
       have H1 : ((paybooklaw03_awake.f kj11).bind fun t183 => (if t183 = true then (if ((t179 == 1) == (decide (a1 < 1))) = true then (if ((t179 == 6) == (decide (a1 > 1000))) = true then (some ((t178.length : Int) == 0)) else (some false)) else (some false)) else (some false))) = some true := by rw [if_pos rfl] at H; exact H
       clear H
       have H := H1
       clear H1
       replace H := Option.bind_eq_some_iff.mp H
       obtain ⟨t183, A150, H⟩ := H
       replace H : (if t183 = true then (if ((t179 == 1) == (decide (a1 < 1))) = true then (if ((t179 == 6) == (decide (a1 > 1000))) = true then (some ((t178.length : Int) == 0)) else (some false)) else (some false)) else (some false)) = some true := H
       have A15 := Aside0.mk A150
       clear A150
       by_cases c16 : t183 = true
       ·subst c16
        have H1 : (if ((t179 == 1) == (decide (a1 < 1))) = true then (if ((t179 == 6) == (decide (a1 > 1000))) = true then (some ((t178.length : Int) == 0)) else (some false)) else (some false)) = some true := by rw [if_pos rfl] at H; exact H
        clear H
        have H := H1
        clear H1
        by_cases c17 : ((t179 == 1) == (decide (a1 < 1))) = true
        ·rw [if_pos c17] at H
         have c17b0 : ((t179 == 1) == (decide (a1 < 1))) = true := c17
         (try (have c17b1 : decide ((t179 == 1) = (decide (a1 < 1))) = true := by simpa using c17))
         (try (have c17b2 : ((t179 == 1) == (decide (a1 < 1))) = true := by simpa using c17))
         clear c17
         by_cases c18 : ((t179 == 6) == (decide (a1 > 1000))) = true
         ·rw [if_pos c18] at H
          have c18b0 : ((t179 == 6) == (decide (a1 > 1000))) = true := c18
          (try (have c18b1 : decide ((t179 == 6) = (decide (a1 > 1000))) = true := by simpa using c18))
          (try (have c18b2 : ((t179 == 6) == (decide (a1 > 1000))) = true := by simpa using c18))
          clear c18
          have HT_ := Option.some.inj H
          clear H
          (try (have HT_z_ := HT_; simp only [beq_true, beq_false, true_beq, false_beq, Bool.not_eq_true', Bool.not_eq_false', Bool.not_true, Bool.not_false] at HT_z_))
          go_wp2_with (first | (go_at_call 10; (with_reducible refine (paybooklaw03_awake.calls kj11  true _ A15.out).mono ?_); rintro e w' ⟨rfl, ⟨nd, rfl⟩⟩; (try first | exact ⟨rfl, _, World.drewN_drewN _ _ _⟩ | exact ⟨rfl, _, Eq.trans (World.drewN_drewN _ _ _) (congrArg (World.drewN _) (Nat.add_assoc _ _ _))⟩); obtain ⟨Ao19, co19, eo19⟩ := Kd.R_slice HO_5.out; subst eo19))
          repeat (go_quiet (first | (go_at_call 10; (with_reducible refine (paybooklaw03_awake.calls kj11  true _ A15.out).mono ?_); rintro e w' ⟨rfl, ⟨nd, rfl⟩⟩; (try first | exact ⟨rfl, _, World.drewN_drewN _ _ _⟩ | exact ⟨rfl, _, Eq.trans (World.drewN_drewN _ _ _) (congrArg (World.drewN _) (Nat.add_assoc _ _ _))⟩); obtain ⟨Ao19, co19, eo19⟩ := Kd.R_slice HO_5.out; subst eo19)); try go_wp2_with (first | (go_at_call 10; (with_reducible refine (paybooklaw03_awake.calls kj11  true _ A15.out).mono ?_); rintro e w' ⟨rfl, ⟨nd, rfl⟩⟩; (try first | exact ⟨rfl, _, World.drewN_drewN _ _ _⟩ | exact ⟨rfl, _, Eq.trans (World.drewN_drewN _ _ _) (congrArg (World.drewN _) (Nat.add_assoc _ _ _))⟩); obtain ⟨Ao19, co19, eo19⟩ := Kd.R_slice HO_5.out; subst eo19)))
          go_ret
          exact ⟨by first | rfl | (simp [errW_none, errW_some] <;> rfl) | (simp [*, errW_none, errW_some] <;> rfl), by repeat (first | (with_reducible first | exact HB.out | apply below_alloc | apply pw_below_drewN | apply below_drew1) | exact HB.out)⟩
         ·rw [if_neg c18] at H
          have c18b0 : ((t179 == 6) == (decide (a1 > 1000))) = false := by simpa using c18
          (try (have c18b1 : decide ((t179 == 6) = (decide (a1 > 1000))) = false := by simpa using c18))
          (try (have c18b2 : ((t179 == 6) == (decide (a1 > 1000))) = false := by simpa using c18))
          (try (have c18b3 : ¬ ((t179 == 6) = (decide (a1 > 1000))) := by simpa using c18))
          clear c18
          exact absurd H (by simp)
        ·rw [if_neg c17] at H
         have c17b0 : ((t179 == 1) == (decide (a1 < 1))) = false := by simpa using c17
         (try (have c17b1 : decide ((t179 == 1) = (decide (a1 < 1))) = false := by simpa using c17))
         (try (have c17b2 : ((t179 == 1) == (decide (a1 < 1))) = false := by simpa using c17))
         (try (have c17b3 : ¬ ((t179 == 1) = (decide (a1 < 1))) := by simpa using c17))
         clear c17
         exact absurd H (by simp)
       ·replace c16 := Bool.eq_false_iff.mpr c16
        subst c16
        have H1 : (some false) = some true := by rw [if_neg (show ¬ (false = true) by decide)] at H; exact H
        clear H
        have H := H1
        clear H1
        exact absurd H (by simp)
      ·replace c14 := Bool.eq_false_iff.mpr c14
       subst c14
       have H1 : (paybooklaw03_PurseSplits.l0 kj11 a0 a1 t178 t179 0 0) = some true := by rw [if_neg (show ¬ (false = true) by decide)] at H; exact H
       clear H
       have H := H1
       clear H1
       have H' := Aside0.mk H
       clear H
       go_wp2
       repeat (go_quiet (fail); try go_wp2)
       go_loopg [7, 8] kj11 (fun kq v7 v8 w' => ∃ (x7_3 : Int) (x8_3 : Int), v7 = .int .i64 x7_3 ∧ v8 = .int .i64 x8_3 ∧ Aside0 (paybooklaw03_PurseSplits.l0 kq a0 a1 t178 t179 x7_3 x8_3 = some true) ∧ Aside0 (kq ≤ kj11) ∧ Aside0 (Kd.R (Kd.int .i64) 2 w' w.heap.size (fun _ => True) v180 t178) ∧ Aside0 (Below w.heap.size w w'))
       case atStart => exact ⟨(0), (0), (by first | rfl | (simp; done) | (simp [*]; done)), (by first | rfl | (simp; done) | (simp [*]; done)), H', ⟨Nat.le_refl _⟩, ⟨by (with_reducible repeat (first | apply Kd.R_alloc | apply Kd.R_drewN | apply Kd.R_drew)); exact HO_5.out⟩, ⟨by repeat (first | (with_reducible first | exact HB.out | apply below_alloc | apply pw_below_drewN | apply below_drew1) | exact HB.out)⟩⟩
       case round =>
        clear H'
        try clear c1
        try clear p2
        try clear c6
        try clear c6b0
        try clear c7
        try clear c8
        try clear c9
        try clear c10
        try clear c10b0
        try clear c10b1
        try clear c13
        try clear c13b0
        try clear c14
        try clear c16
        try clear c17
        try clear c17b0
        try clear c17b1
        try clear c17b2
        try clear c18
        try clear c18b0
        try clear c18b1
        try clear c18b2
        try clear p2
        obtain ⟨x7_3, x8_3, rfl, rfl, HA, HK3, HO_5, HB⟩ := hrel
        cases gk with
        | zero => exact absurd HA.out (by simp [paybooklaw03_PurseSplits.l0])
        | succ k3 =>
         have H := HA.out
         clear HA
         simp only [paybooklaw03_PurseSplits.l0] at H
         by_cases c20 : x8_3 < (t178.length : Int)
         ·rw [if_pos c20] at H
          have c20b0 : decide (x8_3 < (t178.length : Int)) = true := decide_eq_true c20
          clear c20
          by_cases c21 : 0 ≤ x8_3
          ·rw [if_pos c21] at H
           have c21b0 : decide (0 ≤ x8_3) = true := decide_eq_true c21
           clear c21
           by_cases c22 : a1 = 0
           ·rw [if_pos c22] at H
            exact absurd H (by simp)
           ·rw [if_neg c22] at H
            have c22b0 : (a1 == 0) = false := beq_eq_false_iff_ne.mpr c22
            have c22b1 : (a1 != 0) = true := bne_iff_ne.mpr c22
            by_cases c23 : (rd t178 x8_3) < (wrap64 (Int.tdiv a0 a1))
            ·rw [if_pos c23] at H
             have c23b0 : decide ((rd t178 x8_3) < (wrap64 (Int.tdiv a0 a1))) = true := decide_eq_true c23
             clear c23
             exact absurd H (by simp)
            ·rw [if_neg c23] at H
             have c23b0 : decide ((rd t178 x8_3) < (wrap64 (Int.tdiv a0 a1))) = false := decide_eq_false c23
             clear c23
             by_cases c24 : (rd t178 x8_3) > (wrap64 ((wrap64 (Int.tdiv a0 a1)) + 1))
             ·rw [if_pos c24] at H
              have c24b0 : decide ((wrap64 ((wrap64 (Int.tdiv a0 a1)) + 1)) < (rd t178 x8_3)) = true := decide_eq_true c24
              clear c24
              exact absurd H (by simp)
             ·rw [if_neg c24] at H
              have c24b0 : decide ((wrap64 ((wrap64 (Int.tdiv a0 a1)) + 1)) < (rd t178 x8_3)) = false := decide_eq_false c24
              clear c24
              by_cases c25 : x8_3 > 0
              ·rw [if_pos c25] at H
               have c25b0 : decide (0 < x8_3) = true := decide_eq_true c25
               clear c25
               obtain ⟨ji26, hji26⟩ : ∃ j_ : Int, (wrap64 (x8_3 - 1)) = j_ := ⟨_, rfl⟩
               replace H : (if 0 ≤ (ji26) then (if (ji26) < (t178.length : Int) then (if (rd t178 x8_3) > (rd t178 (ji26)) then (some false) else (paybooklaw03_PurseSplits.l0 k3 a0 a1 t178 t179 (wrap64 (x7_3 + (rd t178 x8_3))) (wrap64 (x8_3 + 1)))) else (none)) else (none)) = some true := by first | (rw [hji26] at H; exact H) | (simp only [hji26] at H ⊢; exact H)
               have hji26w : (IntKind.i64.wrap (x8_3 - 1)) = ji26 := (i64_w _).trans hji26
               by_cases c27 : 0 ≤ (ji26)
               ·rw [if_pos c27] at H
                have c27b0 : decide (0 ≤ (ji26)) = true := decide_eq_true c27
                clear c27
                by_cases c28 : (ji26) < (t178.length : Int)
                ·rw [if_pos c28] at H
                 have c28b0 : decide ((ji26) < (t178.length : Int)) = true := decide_eq_true c28
                 clear c28
                 by_cases c29 : (rd t178 x8_3) > (rd t178 (ji26))
                 ·rw [if_pos c29] at H
                  have c29b0 : decide ((rd t178 (ji26)) < (rd t178 x8_3)) = true := decide_eq_true c29
                  clear c29
                  exact absurd H (by simp)
                 ·rw [if_neg c29] at H
                  have c29b0 : decide ((rd t178 (ji26)) < (rd t178 x8_3)) = false := decide_eq_false c29
                  clear c29
                  have H' := Aside0.mk H
                  clear H
                  obtain ⟨Ao30, co30, eo30⟩ := Kd.R_slice HO_5.out
                  subst eo30
                  have p184 : 0 ≤ (x8_3 : Int) := of_decide_eq_true (by first | (with_reducible assumption) | assumption)
                  have q184 : x8_3 < (t178.length : Int) := of_decide_eq_true (by first | (with_reducible assumption) | assumption)
                  obtain ⟨ad184, e184, hx184_0⟩ := Kd.at_int (Kd.R_reads' HO_5.out).2.2 x8_3 p184 q184
                  cases e184
                  replace p184 := eq_true p184
                  replace q184 := eq_true q184
                  have p185 : 0 ≤ (x8_3 : Int) := of_decide_eq_true (by first | (with_reducible assumption) | assumption)
                  have q185 : x8_3 < (t178.length : Int) := of_decide_eq_true (by first | (with_reducible assumption) | assumption)
                  obtain ⟨ad185, e185, hx185_0⟩ := Kd.at_int (Kd.R_reads' HO_5.out).2.2 x8_3 p185 q185
                  obtain rfl : ad184 = ad185 := (by injection e185)
                  replace p185 := eq_true p185
                  replace q185 := eq_true q185
                  have p186 : 0 ≤ (x8_3 : Int) := of_decide_eq_true (by first | (with_reducible assumption) | assumption)
                  have q186 : x8_3 < (t178.length : Int) := of_decide_eq_true (by first | (with_reducible assumption) | assumption)
                  obtain ⟨ad186, e186, hx186_0⟩ := Kd.at_int (Kd.R_reads' HO_5.out).2.2 x8_3 p186 q186
                  obtain rfl : ad184 = ad186 := (by injection e186)
                  replace p186 := eq_true p186
                  replace q186 := eq_true q186
                  have p187 : 0 ≤ (x8_3 : Int) := of_decide_eq_true (by first | (with_reducible assumption) | assumption)
                  have q187 : x8_3 < (t178.length : Int) := of_decide_eq_true (by first | (with_reducible assumption) | assumption)
                  obtain ⟨ad187, e187, hx187_0⟩ := Kd.at_int (Kd.R_reads' HO_5.out).2.2 x8_3 p187 q187
                  obtain rfl : ad184 = ad187 := (by injection e187)
                  replace p187 := eq_true p187
                  replace q187 := eq_true q187
                  have p188 : 0 ≤ ((ji26) : Int) := of_decide_eq_true (by first | (with_reducible assumption) | assumption)
                  have q188 : (ji26) < (t178.length : Int) := of_decide_eq_true (by first | (with_reducible assumption) | assumption)
                  obtain ⟨ad188, e188, hx188_0⟩ := Kd.at_int (Kd.R_reads' HO_5.out).2.2 (ji26) p188 q188
                  obtain rfl : ad184 = ad188 := (by injection e188)
                  replace p188 := eq_true p188
                  replace q188 := eq_true q188
                  go_wp2
                  repeat (go_quiet (fail); try go_wp2)
                  go_roundg k3
                  case measure => have := HJ3.out; have := HJ11.out; have := HK3.out; omega
                  case rel => exact ⟨(wrap64 (x7_3 + (rd t178 x8_3))), (wrap64 (x8_3 + 1)), (by first | rfl | (simp; done) | (simp [*]; done)), (by first | rfl | (simp; done) | (simp [*]; done)), H', ⟨by have := HJ3.out; have := HJ11.out; have := HK3.out; omega⟩, ⟨by (with_reducible repeat (first | apply Kd.R_alloc | apply Kd.R_drewN | apply Kd.R_drew)); exact HO_5.out⟩, ⟨by repeat (first | (with_reducible first | exact HB.out | apply below_alloc | apply pw_below_drewN | apply below_drew1) | exact HB.out)⟩⟩
                ·rw [if_neg c28] at H
                 exact absurd H (by simp)
               ·rw [if_neg c27] at H
                exact absurd H (by simp)
              ·rw [if_neg c25] at H
               have c25b0 : decide (0 < x8_3) = false := decide_eq_false c25
               clear c25
               have H' := Aside0.mk H
               clear H
               obtain ⟨Ao31, co31, eo31⟩ := Kd.R_slice HO_5.out
               subst eo31
               have p184 : 0 ≤ (x8_3 : Int) := of_decide_eq_true (by first | (with_reducible assumption) | assumption)
               have q184 : x8_3 < (t178.length : Int) := of_decide_eq_true (by first | (with_reducible assumption) | assumption)
               obtain ⟨ad184, e184, hx184_0⟩ := Kd.at_int (Kd.R_reads' HO_5.out).2.2 x8_3 p184 q184
               cases e184
               replace p184 := eq_true p184
               replace q184 := eq_true q184
               have p185 : 0 ≤ (x8_3 : Int) := of_decide_eq_true (by first | (with_reducible assumption) | assumption)
               have q185 : x8_3 < (t178.length : Int) := of_decide_eq_true (by first | (with_reducible assumption) | assumption)
               obtain ⟨ad185, e185, hx185_0⟩ := Kd.at_int (Kd.R_reads' HO_5.out).2.2 x8_3 p185 q185
               obtain rfl : ad184 = ad185 := (by injection e185)
               replace p185 := eq_true p185
               replace q185 := eq_true q185
               have p186 : 0 ≤ (x8_3 : Int) := of_decide_eq_true (by first | (with_reducible assumption) | assumption)
               have q186 : x8_3 < (t178.length : Int) := of_decide_eq_true (by first | (with_reducible assumption) | assumption)
               obtain ⟨ad186, e186, hx186_0⟩ := Kd.at_int (Kd.R_reads' HO_5.out).2.2 x8_3 p186 q186
               obtain rfl : ad184 = ad186 := (by injection e186)
               replace p186 := eq_true p186
               replace q186 := eq_true q186
               go_wp2
               repeat (go_quiet (fail); try go_wp2)
               go_roundg k3
               case measure => have := HJ3.out; have := HJ11.out; have := HK3.out; omega
               case rel => exact ⟨(wrap64 (x7_3 + (rd t178 x8_3))), (wrap64 (x8_3 + 1)), (by first | rfl | (simp; done) | (simp [*]; done)), (by first | rfl | (simp; done) | (simp [*]; done)), H', ⟨by have := HJ3.out; have := HJ11.out; have := HK3.out; omega⟩, ⟨by (with_reducible repeat (first | apply Kd.R_alloc | apply Kd.R_drewN | apply Kd.R_drew)); exact HO_5.out⟩, ⟨by repeat (first | (with_reducible first | exact HB.out | apply below_alloc | apply pw_below_drewN | apply below_drew1) | exact HB.out)⟩⟩
          ·rw [if_neg c21] at H
           exact absurd H (by simp)
         ·rw [if_neg c20] at H
          have c20b0 : decide (x8_3 < (t178.length : Int)) = false := decide_eq_false c20
          clear c20
          replace H := Option.bind_eq_some_iff.mp H
          obtain ⟨t189, A320, H⟩ := H
          replace H : (if t189 = true then (if t179 = 0 then (if (t178.length : Int) = a1 then (some (x7_3 == a0)) else (some false)) else (some false)) else (some false)) = some true := H
          have A32 := Aside0.mk A320
          clear A320
          by_cases c33 : t189 = true
          ·subst c33
           have H1 : (if t179 = 0 then (if (t178.length : Int) = a1 then (some (x7_3 == a0)) else (some false)) else (some false)) = some true := by rw [if_pos rfl] at H; exact H
           clear H
           have H := H1
           clear H1
           by_cases c34 : t179 = 0
           ·rw [if_pos c34] at H
            have c34b0 : (t179 == 0) = true := beq_iff_eq.mpr c34
            have c34b1 : (t179 != 0) = false := bne_eq_false_iff_eq.mpr c34
            clear c34
            by_cases c35 : (t178.length : Int) = a1
            ·rw [if_pos c35] at H
             have c35b0 : ((t178.length : Int) == a1) = true := beq_iff_eq.mpr c35
             have c35b1 : ((t178.length : Int) != a1) = false := bne_eq_false_iff_eq.mpr c35
             clear c35
             have HT_ := Option.some.inj H
             clear H
             (try (have HT_z_ := HT_; simp only [beq_true, beq_false, true_beq, false_beq, Bool.not_eq_true', Bool.not_eq_false', Bool.not_true, Bool.not_false] at HT_z_))
             obtain ⟨Ao36, co36, eo36⟩ := Kd.R_slice HO_5.out
             subst eo36
             go_wp2_with (first | (go_at_call 10; (with_reducible refine (paybooklaw03_awake.calls k3  true _ A32.out).mono ?_); rintro e w' ⟨rfl, ⟨nd, rfl⟩⟩; (try first | exact ⟨rfl, _, World.drewN_drewN _ _ _⟩ | exact ⟨rfl, _, Eq.trans (World.drewN_drewN _ _ _) (congrArg (World.drewN _) (Nat.add_assoc _ _ _))⟩)))
             repeat (go_quiet (first | (go_at_call 10; (with_reducible refine (paybooklaw03_awake.calls k3  true _ A32.out).mono ?_); rintro e w' ⟨rfl, ⟨nd, rfl⟩⟩; (try first | exact ⟨rfl, _, World.drewN_drewN _ _ _⟩ | exact ⟨rfl, _, Eq.trans (World.drewN_drewN _ _ _) (congrArg (World.drewN _) (Nat.add_assoc _ _ _))⟩))); try go_wp2_with (first | (go_at_call 10; (with_reducible refine (paybooklaw03_awake.calls k3  true _ A32.out).mono ?_); rintro e w' ⟨rfl, ⟨nd, rfl⟩⟩; (try first | exact ⟨rfl, _, World.drewN_drewN _ _ _⟩ | exact ⟨rfl, _, Eq.trans (World.drewN_drewN _ _ _) (congrArg (World.drewN _) (Nat.add_assoc _ _ _))⟩))))
             go_ret
             exact ⟨by first | rfl | (simp [errW_none, errW_some] <;> rfl) | (simp [*, errW_none, errW_some] <;> rfl), by repeat (first | (with_reducible first | exact HB.out | apply below_alloc | apply pw_below_drewN | apply below_drew1) | exact HB.out)⟩
            ·rw [if_neg c35] at H
             have c35b0 : ((t178.length : Int) == a1) = false := beq_eq_false_iff_ne.mpr c35
             have c35b1 : ((t178.length : Int) != a1) = true := bne_iff_ne.mpr c35
             exact absurd H (by simp)
           ·rw [if_neg c34] at H
            have c34b0 : (t179 == 0) = false := beq_eq_false_iff_ne.mpr c34
            have c34b1 : (t179 != 0) = true := bne_iff_ne.mpr c34
            exact absurd H (by simp)
          ·replace c33 := Bool.eq_false_iff.mpr c33
           subst c33
           have H1 : (some false) = some true := by rw [if_neg (show ¬ (false = true) by decide)] at H; exact H
           clear H
           have H := H1
           clear H1
           exact absurd H (by simp)

/-- THE ONE PURE STATEMENT of paybooklaw03_PurseSplits: yours. -/
def paybooklaw03_PurseSplits.Pure : Prop := ∀ (a0 : Int) (a1 : Int), (Lit.int .i64 a0).wf = true → (Lit.int .i64 a1).wf = true → ∃ k, paybooklaw03_PurseSplits.f k a0 a1 = some true
theorem paybooklaw03_PurseSplits.walk (P : paybooklaw03_PurseSplits.Pure) (a0 : Int) (a1 : Int) (w : World) (w0 : (Lit.int .i64 a0).wf = true) (w1 : (Lit.int .i64 a1).wf = true) :
  Calls Try.prog 8 #[.int .i64 a0, .int .i64 a1] w fun e w' => e = .returned (.bool true) ∧ Below w.heap.size w w' := by
 obtain ⟨k, h⟩ := P a0 a1 w0 w1
 refine (paybooklaw03_PurseSplits.calls k a0 a1 w h).mono ?_
 rintro e w' ⟨rfl, hd⟩
 exact ⟨rfl, hd⟩

end Go.Proofs.Ytkmngemohhncaaa.PA
