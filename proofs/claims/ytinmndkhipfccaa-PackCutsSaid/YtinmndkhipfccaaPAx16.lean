-- printed by this workplace: wip/patchprint.py over the kit's print
import Derived.Test.YtinmndkhipfccaaPAx0
import Derived.Test.YtinmndkhipfccaaPAx4
import Derived.Test.YtinmndkhipfccaaPAx5
import Derived.Test.YtinmndkhipfccaaPAx8
import Derived.Test.YtinmndkhipfccaaPAx9
import Derived.Test.YtinmndkhipfccaaPAx11
import Derived.Test.YtinmndkhipfccaaPAx12
import Derived.Test.YtinmndkhipfccaaPAx13
namespace Go.Proofs.Ytinmndkhipfccaa.PA
open Go.RowKit Go.Proofs.YtinmndkhipfccaaW.PrintWords Go.Proofs.YtinmndkhipfccaaW.PrintLast Go.Proofs.YtinmndkhipfccaaW.PrintMore
attribute [local go_sem] max2_int min2_int max_two min_two max_three min_three max_four min_four   -- for this text's walks alone
set_option linter.unusedVariables false
set_option linter.unusedSimpArgs false

/-! ### paybooklaw05_PackCuts: function 5 -/
mutual
def paybooklaw05_PackCuts.j0 : Nat → List Int → Int → Int → Bool → Option (Bool)
 | 0, _, _, _, _ => none
 | k + 1, x0, x1, x2, x22 => if x22 = true then ((paybooklaw05_awake.f k).bind fun t310 => (some t310)) else ((paybookref05_Packs.f k x0).bind fun t311 => (if (wrap64 ((t311.length : Int) + 1)) = 0 then (none) else (if 0 ≤ (Int.tmod (wrap64 (x1)) (wrap64 ((t311.length : Int) + 1))) then (if (Int.tmod (wrap64 (x1)) (wrap64 ((t311.length : Int) + 1))) ≤ (t311.length : Int) then ((pack_Of.f (t311.take ((Int.tmod (wrap64 (x1)) (wrap64 ((t311.length : Int) + 1))) : Int).toNat)).bind fun bt318 => (paybooklaw05_PackCuts.l0 k x0 x2 t311 (Int.tmod (wrap64 (x1)) (wrap64 ((t311.length : Int) + 1))) 0 0 bt318.1 bt318.2)) else (none)) else (none))))
def paybooklaw05_PackCuts.l0 : Nat → List Int → Int → List Int → Int → Int → Int → List Int → Int → Option (Bool)
 | 0, _, _, _, _, _, _, _, _ => none
 | k + 1, x0, x2, x7, x8, x10, x11, x323000, x323001 => if x11 < (x0.length : Int) then (if 0 ≤ x11 then ((paybookref05_Pack.f k (rd x0 x11)).bind fun t324 => ((pack_Box_Get.f k x323000 x323001 (-9223372036854775808) 9223372036854775807).bind fun bt327 => (if (wrap64 (x10 + (t324.length : Int))) > x8 then (if bt327.1 = 0 then ((pack_Box_Fault.f bt327.2.1 bt327.2.2).bind fun bt332 => (some (bt332.1 == 5))) else (some false)) else (if bt327.1 = (rd x0 x11) then (paybooklaw05_PackCuts.l0 k x0 x2 x7 x8 (wrap64 (x10 + (t324.length : Int))) (wrap64 (x11 + 1)) bt327.2.1 bt327.2.2) else (some false))))) else (none)) else (if ([] : List Int).length + x7.length < 140737488355328 then ((some (([] : List Int) ++ x7 : List Int)).bind fun y338 => (if y338.length < 140737488355328 then ((pack_Of.f (y338 ++ [x2])).bind fun bt344 => (paybooklaw05_PackCuts.l1 k x0 0 x323000 x323001 bt344.1 bt344.2)) else (none))) else (none))
def paybooklaw05_PackCuts.l1 : Nat → List Int → Int → List Int → Int → List Int → Int → Option (Bool)
 | 0, _, _, _, _, _, _ => none
 | k + 1, x0, x15, x323000, x323001, x349000, x349001 => if x15 < (x0.length : Int) then ((pack_Box_Get.f k x349000 x349001 (-9223372036854775808) 9223372036854775807).bind fun bt349 => (paybooklaw05_PackCuts.l1 k x0 (wrap64 (x15 + 1)) x323000 x323001 bt349.2.1 bt349.2.2)) else ((pack_Box_End.f x323000 x323001).bind fun bt354 => (if bt354.1 = 0 then ((pack_Box_End.f x349000 x349001).bind fun bt359 => (some (bt359.1 == 4))) else (some false)))
end
def paybooklaw05_PackCuts.f (k : Nat) (l0 : List Int) (a1 : Int) (a2 : Int) : Option (Bool) := (paybooklaw05_awake.f k).bind fun t309 => (if t309 = true then (paybooklaw05_PackCuts.j0 k l0 a1 a2 (decide ((l0.length : Int) > 30))) else (paybooklaw05_PackCuts.j0 k l0 a1 a2 true))
theorem paybooklaw05_PackCuts.mono_l : ∀ k, (∀ y0 y1 y2 y3, LeO (paybooklaw05_PackCuts.j0 k y0 y1 y2 y3) (paybooklaw05_PackCuts.j0 (k + 1) y0 y1 y2 y3)) ∧ (∀ y0 y1 y2 y3 y4 y5 y6 y7, LeO (paybooklaw05_PackCuts.l0 k y0 y1 y2 y3 y4 y5 y6 y7) (paybooklaw05_PackCuts.l0 (k + 1) y0 y1 y2 y3 y4 y5 y6 y7)) ∧ (∀ y0 y1 y2 y3 y4 y5, LeO (paybooklaw05_PackCuts.l1 k y0 y1 y2 y3 y4 y5) (paybooklaw05_PackCuts.l1 (k + 1) y0 y1 y2 y3 y4 y5))
 | 0 => ⟨fun _ _ _ _ r h => by simp [paybooklaw05_PackCuts.j0] at h, fun _ _ _ _ _ _ _ _ r h => by simp [paybooklaw05_PackCuts.l0] at h, fun _ _ _ _ _ _ r h => by simp [paybooklaw05_PackCuts.l1] at h⟩
 | k + 1 => by
  obtain ⟨ih0, ih1, ih2⟩ := paybooklaw05_PackCuts.mono_l k
  refine ⟨?_, ?_, ?_⟩
  ·intro y0 y1 y2 y3
   unfold paybooklaw05_PackCuts.j0
   repeat' first
   | (with_reducible exact ih0 _ _ _ _)
   | (with_reducible exact ih1 _ _ _ _ _ _ _ _)
   | (with_reducible exact ih2 _ _ _ _ _ _)
   | (with_reducible exact pack_Box_Get.mono _ _ _ _ _)
   | (with_reducible exact paybooklaw05_awake.mono _)
   | (with_reducible exact paybookref05_Pack.mono _ _)
   | (with_reducible exact paybookref05_Packs.mono _ _)
   | (with_reducible exact LeO.refl _)
   | (with_reducible exact LeO.none _)
   | (with_reducible refine LeO.ite ?_ ?_)
   | (with_reducible refine LeO.bind ?_ (fun _ => ?_))
   | exact ih0 _ _ _ _
   | exact ih1 _ _ _ _ _ _ _ _
   | exact ih2 _ _ _ _ _ _
   | exact pack_Box_Get.mono _ _ _ _ _
   | exact paybooklaw05_awake.mono _
   | exact paybookref05_Pack.mono _ _
   | exact paybookref05_Packs.mono _ _
   | exact LeO.none _
   | refine LeO.ite ?_ ?_
   | refine LeO.bind ?_ (fun _ => ?_)
  ·intro y0 y1 y2 y3 y4 y5 y6 y7
   unfold paybooklaw05_PackCuts.l0
   repeat' first
   | (with_reducible exact ih0 _ _ _ _)
   | (with_reducible exact ih1 _ _ _ _ _ _ _ _)
   | (with_reducible exact ih2 _ _ _ _ _ _)
   | (with_reducible exact pack_Box_Get.mono _ _ _ _ _)
   | (with_reducible exact paybooklaw05_awake.mono _)
   | (with_reducible exact paybookref05_Pack.mono _ _)
   | (with_reducible exact paybookref05_Packs.mono _ _)
   | (with_reducible exact LeO.refl _)
   | (with_reducible exact LeO.none _)
   | (with_reducible refine LeO.ite ?_ ?_)
   | (with_reducible refine LeO.bind ?_ (fun _ => ?_))
   | exact ih0 _ _ _ _
   | exact ih1 _ _ _ _ _ _ _ _
   | exact ih2 _ _ _ _ _ _
   | exact pack_Box_Get.mono _ _ _ _ _
   | exact paybooklaw05_awake.mono _
   | exact paybookref05_Pack.mono _ _
   | exact paybookref05_Packs.mono _ _
   | exact LeO.none _
   | refine LeO.ite ?_ ?_
   | refine LeO.bind ?_ (fun _ => ?_)
  ·intro y0 y1 y2 y3 y4 y5
   unfold paybooklaw05_PackCuts.l1
   repeat' first
   | (with_reducible exact ih0 _ _ _ _)
   | (with_reducible exact ih1 _ _ _ _ _ _ _ _)
   | (with_reducible exact ih2 _ _ _ _ _ _)
   | (with_reducible exact pack_Box_Get.mono _ _ _ _ _)
   | (with_reducible exact paybooklaw05_awake.mono _)
   | (with_reducible exact paybookref05_Pack.mono _ _)
   | (with_reducible exact paybookref05_Packs.mono _ _)
   | (with_reducible exact LeO.refl _)
   | (with_reducible exact LeO.none _)
   | (with_reducible refine LeO.ite ?_ ?_)
   | (with_reducible refine LeO.bind ?_ (fun _ => ?_))
   | exact ih0 _ _ _ _
   | exact ih1 _ _ _ _ _ _ _ _
   | exact ih2 _ _ _ _ _ _
   | exact pack_Box_Get.mono _ _ _ _ _
   | exact paybooklaw05_awake.mono _
   | exact paybookref05_Pack.mono _ _
   | exact paybookref05_Packs.mono _ _
   | exact LeO.none _
   | refine LeO.ite ?_ ?_
   | refine LeO.bind ?_ (fun _ => ?_)
theorem paybooklaw05_PackCuts.mono : ∀ a0 a1 a2 k, LeO (paybooklaw05_PackCuts.f k a0 a1 a2) (paybooklaw05_PackCuts.f (k + 1) a0 a1 a2) := by
 intro a0 a1 a2 k
 obtain ⟨ih0, ih1, ih2⟩ := paybooklaw05_PackCuts.mono_l k
 unfold paybooklaw05_PackCuts.f
 repeat' first
   | (with_reducible exact ih0 _ _ _ _)
   | (with_reducible exact ih1 _ _ _ _ _ _ _ _)
   | (with_reducible exact ih2 _ _ _ _ _ _)
   | (with_reducible exact pack_Box_Get.mono _ _ _ _ _)
   | (with_reducible exact paybooklaw05_awake.mono _)
   | (with_reducible exact paybookref05_Pack.mono _ _)
   | (with_reducible exact paybookref05_Packs.mono _ _)
   | (with_reducible exact LeO.refl _)
   | (with_reducible exact LeO.none _)
   | (with_reducible refine LeO.ite ?_ ?_)
   | (with_reducible refine LeO.bind ?_ (fun _ => ?_))
   | exact ih0 _ _ _ _
   | exact ih1 _ _ _ _ _ _ _ _
   | exact ih2 _ _ _ _ _ _
   | exact pack_Box_Get.mono _ _ _ _ _
   | exact paybooklaw05_awake.mono _
   | exact paybookref05_Pack.mono _ _
   | exact paybookref05_Packs.mono _ _
   | exact LeO.none _
   | refine LeO.ite ?_ ?_
   | refine LeO.bind ?_ (fun _ => ?_)
set_option maxHeartbeats 40000000 in
set_option maxRecDepth 100000 in
theorem paybooklaw05_PackCuts.calls (k : Nat) (A0 : Option Addr) (c0 : Nat) (l0 : List Int) (a1 : Int) (a2 : Int) (w : World) (hr0 : Kd.C (Kd.int .i64) w A0 l0.length l0) (hc0 : l0.length ≤ c0) (h : paybooklaw05_PackCuts.f k l0 a1 a2 = some true) :
  Calls Try.prog 5 #[.slice A0 l0.length c0, .int .u16 a1, .int .u8 a2] w fun e w' => e = .returned (.bool true) ∧ Below w.heap.size w w' := by
 have HR0 := Aside0.mk hr0
 have HC0 := Aside0.mk hc0
 clear hr0 hc0
 have HB := Aside0.mk (Below.refl w.heap.size w)
 have H : ((paybooklaw05_awake.f k).bind fun t309 => (if t309 = true then (paybooklaw05_PackCuts.j0 k l0 a1 a2 (decide ((l0.length : Int) > 30))) else (paybooklaw05_PackCuts.j0 k l0 a1 a2 true))) = some true := h
 clear h
 have HC4 := Aside0.mk H
 clear H
 go_enter Try.func5, Try.ntmps5
 go_upto_region 1 with (fail)
 go_cut [22] (fun v22 wc => ∃ (kq : Nat) (x22_3 : Bool), v22 = .bool x22_3 ∧ Aside0 (paybooklaw05_PackCuts.j0 kq l0 a1 a2 x22_3 = some true) ∧ Aside0 (kq ≤ k) ∧ Aside0 (Below w.heap.size w wc))
 case first =>
  have H := HC4.out
  clear HC4
  replace H := Option.bind_eq_some_iff.mp H
  obtain ⟨t309, A50, H⟩ := H
  replace H : (if t309 = true then (paybooklaw05_PackCuts.j0 k l0 a1 a2 (decide ((l0.length : Int) > 30))) else (paybooklaw05_PackCuts.j0 k l0 a1 a2 true)) = some true := H
  have A5 := Aside0.mk A50
  clear A50
  by_cases c6 : t309 = true
  ·subst c6
   have H1 : (paybooklaw05_PackCuts.j0 k l0 a1 a2 (decide ((l0.length : Int) > 30))) = some true := by rw [if_pos rfl] at H; try exact H
   clear H
   have H := H1
   clear H1
   have H' := Aside0.mk H
   clear H
   go_wp2_with (first | (go_at_call 10; (with_reducible refine (paybooklaw05_awake.calls k  true _ A5.out).mono ?_); rintro e w7 ⟨rfl, hb⟩; have n0_ := Aside0.mk (below_step (by repeat (first | (with_reducible first | exact HB.out | apply below_alloc | apply pw_below_drewN | apply below_drew1) | exact HB.out)) hb); clear HB; have HB := n0_; clear n0_; (try clear hb); (try clear hb2); (try clear hk); (try clear hi)) | ((with_reducible refine gate_callee (f := 10) rfl ?_); refine goesL_ (some 16) rfl rfl Try.func10 (by kernel_rfl) rfl #[] rfl (by (try simp only [List.map_toArray, List.map_cons, List.map_nil]); first | done | rfl | (simp only [List.length_drop, List.length_take]; rfl)) ?_; (with_reducible refine (paybooklaw05_awake.calls k  true _ A5.out).mono ?_); rintro e w7 ⟨rfl, hb⟩; refine ⟨_, rfl, ?_⟩; have n0_ := Aside0.mk (below_step (by repeat (first | (with_reducible first | exact HB.out | apply below_alloc | apply pw_below_drewN | apply below_drew1) | exact HB.out)) hb); clear HB; have HB := n0_; clear n0_; (try clear hb); (try clear hb2); (try clear hk); (try clear hi)))
   go_meet
   case rel => exact ⟨_, (decide ((l0.length : Int) > 30)), (by first | rfl | (simp; done) | (simp [*]; done)), H', ⟨by first | omega | exact Nat.le_refl _⟩, ⟨by repeat (first | (with_reducible first | exact HB.out | apply below_alloc | apply pw_below_drewN | apply below_drew1) | exact HB.out)⟩⟩
  ·replace c6 := Bool.eq_false_iff.mpr c6
   subst c6
   have H1 : (paybooklaw05_PackCuts.j0 k l0 a1 a2 true) = some true := by rw [if_neg (show ¬ (false = true) by decide)] at H; try exact H
   clear H
   have H := H1
   clear H1
   have H' := Aside0.mk H
   clear H
   go_wp2_with (first | (go_at_call 10; (with_reducible refine (paybooklaw05_awake.calls k  false _ A5.out).mono ?_); rintro e w8 ⟨rfl, hb⟩; have n0_ := Aside0.mk (below_step (by repeat (first | (with_reducible first | exact HB.out | apply below_alloc | apply pw_below_drewN | apply below_drew1) | exact HB.out)) hb); clear HB; have HB := n0_; clear n0_; (try clear hb); (try clear hb2); (try clear hk); (try clear hi)) | ((with_reducible refine gate_callee (f := 10) rfl ?_); refine goesL_ (some 16) rfl rfl Try.func10 (by kernel_rfl) rfl #[] rfl (by (try simp only [List.map_toArray, List.map_cons, List.map_nil]); first | done | rfl | (simp only [List.length_drop, List.length_take]; rfl)) ?_; (with_reducible refine (paybooklaw05_awake.calls k  false _ A5.out).mono ?_); rintro e w8 ⟨rfl, hb⟩; refine ⟨_, rfl, ?_⟩; have n0_ := Aside0.mk (below_step (by repeat (first | (with_reducible first | exact HB.out | apply below_alloc | apply pw_below_drewN | apply below_drew1) | exact HB.out)) hb); clear HB; have HB := n0_; clear n0_; (try clear hb); (try clear hb2); (try clear hk); (try clear hi)))
   go_meet
   case rel => exact ⟨_, (true), (by first | rfl | (simp; done) | (simp [*]; done)), H', ⟨by first | omega | exact Nat.le_refl _⟩, ⟨by repeat (first | (with_reducible first | exact HB.out | apply below_alloc | apply pw_below_drewN | apply below_drew1) | exact HB.out)⟩⟩
 case rest =>
  clear HC4
  try clear c1
  try clear p2
  try clear c5
  try clear c6
  obtain ⟨kq, x22_3, rfl, HA, HJ3, HB⟩ := hcut
  cases kq with
  | zero => exact absurd HA.out (by simp [paybooklaw05_PackCuts.j0])
  | succ kj3 =>
   have H := HA.out
   clear HA
   simp only [paybooklaw05_PackCuts.j0] at H
   by_cases c9 : x22_3 = true
   ·subst c9
    have H1 : ((paybooklaw05_awake.f kj3).bind fun t310 => (some t310)) = some true := by rw [if_pos rfl] at H; try exact H
    clear H
    have H := H1
    clear H1
    replace H := Option.bind_eq_some_iff.mp H
    obtain ⟨t310, A100, H⟩ := H
    replace H : (some t310) = some true := H
    have A10 := Aside0.mk A100
    clear A100
    have HT_ := Option.some.inj H
    clear H
    (try (have HT_z_ := HT_; simp only [beq_true, beq_false, true_beq, false_beq, Bool.not_eq_true', Bool.not_eq_false', Bool.not_true, Bool.not_false] at HT_z_))
    go_wp2_with (first | (go_at_call 10; (with_reducible refine (paybooklaw05_awake.calls kj3  t310 _ A10.out).mono ?_); rintro e w11 ⟨rfl, hb⟩; have n0_ := Aside0.mk (below_step (by repeat (first | (with_reducible first | exact HB.out | apply below_alloc | apply pw_below_drewN | apply below_drew1) | exact HB.out)) hb); clear HB; have HB := n0_; clear n0_; (try clear hb); (try clear hb2); (try clear hk); (try clear hi)) | ((with_reducible refine gate_callee (f := 10) rfl ?_); refine goesL_ (some 23) rfl rfl Try.func10 (by kernel_rfl) rfl #[] rfl (by (try simp only [List.map_toArray, List.map_cons, List.map_nil]); first | done | rfl | (simp only [List.length_drop, List.length_take]; rfl)) ?_; (with_reducible refine (paybooklaw05_awake.calls kj3  t310 _ A10.out).mono ?_); rintro e w11 ⟨rfl, hb⟩; refine ⟨_, rfl, ?_⟩; have n0_ := Aside0.mk (below_step (by repeat (first | (with_reducible first | exact HB.out | apply below_alloc | apply pw_below_drewN | apply below_drew1) | exact HB.out)) hb); clear HB; have HB := n0_; clear n0_; (try clear hb); (try clear hb2); (try clear hk); (try clear hi)))
    go_ret
    exact ⟨by first | rfl | (simp [errW_none, errW_some] <;> rfl) | (simp [*, errW_none, errW_some] <;> rfl), by repeat (first | (with_reducible first | exact HB.out | apply below_alloc | apply pw_below_drewN | apply below_drew1) | exact HB.out)⟩
   ·replace c9 := Bool.eq_false_iff.mpr c9
    subst c9
    have H1 : ((paybookref05_Packs.f kj3 l0).bind fun t311 => (if (wrap64 ((t311.length : Int) + 1)) = 0 then (none) else (if 0 ≤ (Int.tmod (wrap64 (a1)) (wrap64 ((t311.length : Int) + 1))) then (if (Int.tmod (wrap64 (a1)) (wrap64 ((t311.length : Int) + 1))) ≤ (t311.length : Int) then ((pack_Of.f (t311.take ((Int.tmod (wrap64 (a1)) (wrap64 ((t311.length : Int) + 1))) : Int).toNat)).bind fun bt318 => (paybooklaw05_PackCuts.l0 kj3 l0 a2 t311 (Int.tmod (wrap64 (a1)) (wrap64 ((t311.length : Int) + 1))) 0 0 bt318.1 bt318.2)) else (none)) else (none)))) = some true := by rw [if_neg (show ¬ (false = true) by decide)] at H; try exact H
    clear H
    have H := H1
    clear H1
    replace H := Option.bind_eq_some_iff.mp H
    obtain ⟨t311, A120, H⟩ := H
    replace H : (if (wrap64 ((t311.length : Int) + 1)) = 0 then (none) else (if 0 ≤ (Int.tmod (wrap64 (a1)) (wrap64 ((t311.length : Int) + 1))) then (if (Int.tmod (wrap64 (a1)) (wrap64 ((t311.length : Int) + 1))) ≤ (t311.length : Int) then ((pack_Of.f (t311.take ((Int.tmod (wrap64 (a1)) (wrap64 ((t311.length : Int) + 1))) : Int).toNat)).bind fun bt318 => (paybooklaw05_PackCuts.l0 kj3 l0 a2 t311 (Int.tmod (wrap64 (a1)) (wrap64 ((t311.length : Int) + 1))) 0 0 bt318.1 bt318.2)) else (none)) else (none))) = some true := H
    have A12 := Aside0.mk A120
    clear A120
    by_cases c13 : (wrap64 ((t311.length : Int) + 1)) = 0
    ·rw [if_pos c13] at H
     exact absurd H (by simp)
    ·rw [if_neg c13] at H
     have c13b0 : ((wrap64 ((t311.length : Int) + 1)) == 0) = false := beq_eq_false_iff_ne.mpr c13
     have c13b1 : ((wrap64 ((t311.length : Int) + 1)) != 0) = true := bne_iff_ne.mpr c13
     obtain ⟨ji14, hji14⟩ : ∃ j_ : Int, (Int.tmod (wrap64 (a1)) (wrap64 ((t311.length : Int) + 1))) = j_ := ⟨_, rfl⟩
     replace H : (if 0 ≤ (ji14) then (if (ji14) ≤ (t311.length : Int) then ((pack_Of.f (t311.take ((ji14) : Int).toNat)).bind fun bt318 => (paybooklaw05_PackCuts.l0 kj3 l0 a2 t311 ji14 0 0 bt318.1 bt318.2)) else (none)) else (none)) = some true := by first | (rw [hji14] at H; try exact H) | (simp only [hji14] at H ⊢; exact H)
     (try rw [hji14] at A12)
     by_cases c15 : 0 ≤ (ji14)
     ·rw [if_pos c15] at H
      have c15b0 := eq_true c15
      have c15b1 : decide (0 ≤ (ji14)) = true := decide_eq_true c15
      clear c15
      by_cases c16 : (ji14) ≤ (t311.length : Int)
      ·rw [if_pos c16] at H
       have c16b0 := eq_true c16
       have c16b1 : decide ((ji14) ≤ (t311.length : Int)) = true := decide_eq_true c16
       clear c16
       obtain ⟨y314, hy314⟩ : ∃ y_ : List Int, y_ = (t311.take ((ji14) : Int).toNat) := ⟨_, rfl⟩
       replace H : ((pack_Of.f y314).bind fun bt318 => (paybooklaw05_PackCuts.l0 kj3 l0 a2 t311 ji14 0 0 bt318.1 bt318.2)) = some true := by first | (rw [hy314]; with_reducible exact H) | (have H2_ := (Option.bind_some _ _).symm.trans H; rw [hy314]; with_reducible exact H2_) | (have H2_ := (Option.bind_some _ _).symm.trans H; with_reducible exact H2_) | with_reducible exact H | (rw [hy314]; exact H) | exact H
       have Ny314 := Aside0.mk hy314
       clear hy314
       replace H := Option.bind_eq_some_iff.mp H
       obtain ⟨⟨t318, t321⟩, A170, H⟩ := H
       replace H : (paybooklaw05_PackCuts.l0 kj3 l0 a2 t311 ji14 0 0 t318 t321) = some true := H
       have A17 := Aside0.mk A170
       clear A170
       have H' := Aside0.mk H
       clear H
       go_wp2_with (first | ((with_reducible refine gate_callee (f := 15) rfl ?_); refine goesL_ (some 25) rfl rfl Try.func15 (by kernel_rfl) rfl #[.slice A0 l0.length c0] rfl (by (try simp only [List.map_toArray, List.map_cons, List.map_nil]); first | done | rfl | (simp only [List.length_drop, List.length_take]; rfl)) ?_; (with_reducible refine (paybookref05_Packs.calls kj3 _ _ l0 t311 _ ?side1 ?side2 A12.out).mono ?_); (case side1 => repeat (first | exact (Kd.C_below HR0.out HB.out) | exact HR0.out | (with_reducible refine Kd.C_alloc ?_ _) | (with_reducible refine Kd.C_drewN ?_ _) | (with_reducible refine Kd.C_drew ?_))); (case side2 => exact HC0.out); rintro e w18 ⟨v312, rfl, ho0, hb⟩; refine ⟨_, rfl, ?_⟩; have n0_ := Aside0.mk (Kd.R_lower ho0 (below_size (by repeat (first | (with_reducible first | exact HB.out | apply below_alloc | apply pw_below_drewN | apply below_drew1) | exact HB.out)))); have n1_ := Aside0.mk (below_step (by repeat (first | (with_reducible first | exact HB.out | apply below_alloc | apply pw_below_drewN | apply below_drew1) | exact HB.out)) hb); clear HB; have HO313 := n0_; have HB := n1_; clear n0_ n1_; (try clear hb); (try clear hb2); (try clear hk); (try clear hi); (try clear ho0); obtain ⟨Ao19, co19, eo19⟩ := Kd.R_slice HO313.out; subst eo19; have q20 : ((ji14) : Int) ≤ ((t311.length : Int) : Int) := of_decide_eq_true (by first | (with_reducible assumption) | assumption); obtain ⟨i020, hi020, _, hsz20, _⟩ := info_parts info5; have hroom20 : t311.length ≤ co19 := (Kd.R_reads' HO313.out).2.1; have hC20 : Kd.C (Kd.int .u8) _ Ao19 t311.length t311 := (Kd.R_reads' HO313.out).2.2; have hcut20 := cut_to (P := Try.prog) 24 5 .i64 Try.underlying24 hi020 Ao19 t311.length co19 (ji14) (of_decide_eq_true (by first | (with_reducible assumption) | assumption)) q20 hroom20; have hr20 := Kd.C_take (m := ((ji14) : Int).toNat) hC20 (by omega); have hy20 : y314.length = ((ji14) : Int).toNat := (by rw [Ny314.out, List.length_take]; omega); rw [← Ny314.out] at hr20; rw [← hy20] at hcut20; have HR317 := Aside0.mk hr20; have HC317 := Aside0.mk (show y314.length ≤ co19 from by omega); clear hr20 hC20 hroom20 hi020 hsz20; have KY20 := Aside0.mk hy20; clear hy20; have KL20 := Aside0.mk (show ((ji14) : Int).toNat ≤ t311.length from by omega); replace q20 := eq_true q20) | ((with_reducible refine gate_callee (f := 16) rfl ?_); refine goesL_ (some 35) rfl rfl Try.func16 (by kernel_rfl) rfl #[.slice Ao19 y314.length co19] rfl (by (try simp only [List.map_toArray, List.map_cons, List.map_nil]); first | done | rfl | (simp only [List.length_drop, List.length_take]; rfl)) ?_; (with_reducible refine (pack_Of.calls _ _ y314 t318 t321 _ ?side1 ?side2 A17.out).mono ?_); (case side1 => repeat (first | exact (by repeat (first | (with_reducible exact HR317.out) | (with_reducible refine Kd.C_alloc ?_ _) | (with_reducible refine Kd.C_drewN ?_ _) | (with_reducible refine Kd.C_drew ?_) | exact HR317.out)) | (with_reducible refine Kd.C_alloc ?_ _) | (with_reducible refine Kd.C_drewN ?_ _) | (with_reducible refine Kd.C_drew ?_))); (case side2 => exact HC317.out); rintro e w21 ⟨v319, gb322, rfl, ho0, hnb322, hnl322, hb⟩; refine ⟨_, rfl, ?_⟩; have n0_ := Aside0.mk (Kd.R_elder' (by (with_reducible repeat (first | apply Kd.R_alloc | apply Kd.R_drewN | apply Kd.R_drew)); exact HO313.out) (Kd.R_base ho0) hb); have n1_ := Aside0.mk (Kd.R_lower (Kd.R_new' ho0 (Kd.R_lt (by (with_reducible repeat (first | apply Kd.R_alloc | apply Kd.R_drewN | apply Kd.R_drew)); exact HO313.out))) (below_size (by repeat (first | (with_reducible first | exact HB.out | apply below_alloc | apply pw_below_drewN | apply below_drew1) | exact HB.out)))); have n2_ := Aside0.mk (Kd.C_below (by repeat (first | (with_reducible exact HR317.out) | (with_reducible refine Kd.C_alloc ?_ _) | (with_reducible refine Kd.C_drewN ?_ _) | (with_reducible refine Kd.C_drew ?_) | exact HR317.out)) hb); have n3_ := Aside0.mk (hnb322); have n4_ := Aside0.mk ((Nat.le_trans (below_size (by repeat (first | (with_reducible first | exact HB.out | apply below_alloc | apply pw_below_drewN | apply below_drew1) | exact HB.out))) hnl322 : w.heap.size ≤ gb322)); have n5_ := Aside0.mk ((Nat.le_trans (below_size (by repeat (first | (with_reducible first | exact HB.out | apply below_alloc | apply pw_below_drewN | apply below_drew1) | exact HB.out))) hnl322 : w.heap.size ≤ gb322)); have n6_ := Aside0.mk (below_step (by repeat (first | (with_reducible first | exact HB.out | apply below_alloc | apply pw_below_drewN | apply below_drew1) | exact HB.out)) hb); clear HO313; clear HR317; clear HB; have HO313 := n0_; have HO320 := n1_; have HR317 := n2_; have BK322 := n3_; have GW322 := n4_; have GE322 := n5_; have HB := n6_; clear n0_ n1_ n2_ n3_ n4_ n5_ n6_; (try clear hb); (try clear hb2); (try clear hk); (try clear hi); (try clear ho0)))
       go_loopg [10, 11] kj3 (fun kq v10 v11 w' => ∃ (x10_2 : Int) (x11_2 : Int) (x323000_2 : List Int) (x323001_2 : Int) (u323000 : Value), v10 = .int .i64 x10_2 ∧ v11 = .int .i64 x11_2 ∧ Aside0 (paybooklaw05_PackCuts.l0 kq l0 a2 t311 ji14 x10_2 x11_2 x323000_2 x323001_2 = some true) ∧ Aside0 (kq ≤ kj3) ∧ Aside0 (Kd.R (Kd.int .u8) 5 w' w.heap.size (fun k_ => some k_ ≠ (u323000 : Value).ownBlock) (.slice Ao19 t311.length co19) t311) ∧ Aside0 (Kd.Q (Kd.int .u8) 5 w' w.heap.size (fun k_ => some k_ ≠ ((.slice Ao19 t311.length co19) : Value).ownBlock) u323000 x323000_2) ∧ Aside0 (w'.heap[gb322]? = some (.cells #[u323000, .int .i64 x323001_2] 51 (0, 0))) ∧ Aside0 (Below w.heap.size w w'))
       case atStart => exact ⟨(0), (0), (t318), (t321), (v319), (by first | rfl | (simp; done) | (simp [*]; done)), (by first | rfl | (simp; done) | (simp [*]; done)), H', ⟨Nat.le_refl _⟩, ⟨by (with_reducible repeat (first | apply Kd.R_alloc | apply Kd.R_drewN | apply Kd.R_drew)); exact Kd.R_mono HO313.out (fun _ hk => hk.2)⟩, ⟨Kd.Q_of_R (by (with_reducible repeat (first | apply Kd.R_alloc | apply Kd.R_drewN | apply Kd.R_drew)); exact Kd.R_mono HO320.out (fun _ hk => hk.2))⟩, ⟨by (with_reducible repeat (first | refine blk_drewN ?_ _ | refine blk_drew ?_ | refine blk_alloc ?_ _)); exact BK322.out⟩, ⟨by repeat (first | (with_reducible first | exact HB.out | apply below_alloc | apply pw_below_drewN | apply below_drew1 | refine below_set ?_ GE322.out) | exact HB.out)⟩⟩
       case round =>
        clear H'
        try clear c1
        try clear p2
        try clear q2
        try clear c5
        try clear c6
        try clear p6
        try clear c9
        try clear c10
        try clear c13
        try clear c13b0
        try clear c13b1
        try clear c15
        try clear c15b0
        try clear c15b1
        try clear c16
        try clear c16b0
        try clear c16b1
        try clear q20
        try clear p2
        try clear q20
        obtain ⟨x10_2, x11_2, x323000_2, x323001_2, u323000, rfl, rfl, HA, HK2, HO_7, HO_323000, BK322, HB⟩ := hrel
        cases gk with
        | zero => exact absurd HA.out (by simp [paybooklaw05_PackCuts.l0])
        | succ k2 =>
         have H := HA.out
         clear HA
         simp only [paybooklaw05_PackCuts.l0] at H
         by_cases c22 : x11_2 < (l0.length : Int)
         ·rw [if_pos c22] at H
          have c22b0 : decide (x11_2 < (l0.length : Int)) = true := decide_eq_true c22
          clear c22
          by_cases c23 : 0 ≤ x11_2
          ·rw [if_pos c23] at H
           have c23b0 : decide (0 ≤ x11_2) = true := decide_eq_true c23
           clear c23
           replace H := Option.bind_eq_some_iff.mp H
           obtain ⟨t324, A240, H⟩ := H
           replace H : ((pack_Box_Get.f k2 x323000_2 x323001_2 (-9223372036854775808) 9223372036854775807).bind fun bt327 => (if (wrap64 (x10_2 + (t324.length : Int))) > ji14 then (if bt327.1 = 0 then ((pack_Box_Fault.f bt327.2.1 bt327.2.2).bind fun bt332 => (some (bt332.1 == 5))) else (some false)) else (if bt327.1 = (rd l0 x11_2) then (paybooklaw05_PackCuts.l0 k2 l0 a2 t311 ji14 (wrap64 (x10_2 + (t324.length : Int))) (wrap64 (x11_2 + 1)) bt327.2.1 bt327.2.2) else (some false)))) = some true := H
           have A24 := Aside0.mk A240
           clear A240
           replace H := Option.bind_eq_some_iff.mp H
           obtain ⟨⟨t327, t328, t331⟩, A250, H⟩ := H
           replace H : (if (wrap64 (x10_2 + (t324.length : Int))) > ji14 then (if t327 = 0 then ((pack_Box_Fault.f t328 t331).bind fun bt332 => (some (bt332.1 == 5))) else (some false)) else (if t327 = (rd l0 x11_2) then (paybooklaw05_PackCuts.l0 k2 l0 a2 t311 ji14 (wrap64 (x10_2 + (t324.length : Int))) (wrap64 (x11_2 + 1)) t328 t331) else (some false))) = some true := H
           have A25 := Aside0.mk A250
           clear A250
           by_cases c26 : (wrap64 (x10_2 + (t324.length : Int))) > ji14
           ·rw [if_pos c26] at H
            have c26b0 : decide (ji14 < (wrap64 (x10_2 + (t324.length : Int)))) = true := decide_eq_true c26
            clear c26
            by_cases c27 : t327 = 0
            ·rw [if_pos c27] at H
             have c27b0 : (t327 == 0) = true := beq_iff_eq.mpr c27
             have c27b1 : (t327 != 0) = false := bne_eq_false_iff_eq.mpr c27
             clear c27
             replace H := Option.bind_eq_some_iff.mp H
             obtain ⟨⟨t332, t333, t336⟩, A280, H⟩ := H
             replace H : (some (t332 == 5)) = some true := H
             have A28 := Aside0.mk A280
             clear A280
             have HT_ := Option.some.inj H
             clear H
             (try (have HT_z_ := HT_; simp only [beq_true, beq_false, true_beq, false_beq, Bool.not_eq_true', Bool.not_eq_false', Bool.not_true, Bool.not_false] at HT_z_))
             have p323 : 0 ≤ (x11_2 : Int) := of_decide_eq_true (by first | (with_reducible assumption) | assumption)
             have q323 : x11_2 < (l0.length : Int) := of_decide_eq_true (by first | (with_reducible assumption) | assumption)
             obtain ⟨ad323, e323, hx323_0⟩ := Kd.at_int HR0.out x11_2 p323 q323
             cases e323
             replace hx323_0 := (HB.out.cell (World.block_lt_of_cell? w _ hx323_0)).trans hx323_0
             replace p323 := eq_true p323
             replace q323 := eq_true q323
             go_wp2_with (first | ((with_reducible refine gate_callee (f := 14) rfl ?_); refine goesL_ (some 46) rfl rfl Try.func14 (by kernel_rfl) rfl #[.int .i64 (rd l0 x11_2)] rfl (by (try simp only [List.map_toArray, List.map_cons, List.map_nil]); first | done | rfl | (simp only [List.length_drop, List.length_take]; rfl)) ?_; (with_reducible refine (paybookref05_Pack.calls k2 (rd l0 x11_2) t324 _ A24.out).mono ?_); rintro e w29 ⟨v325, rfl, ho0, hb⟩; refine ⟨_, rfl, ?_⟩; have n0_ := Aside0.mk (Kd.R_elder' (by (with_reducible repeat (first | apply Kd.R_alloc | apply Kd.R_drewN | apply Kd.R_drew)); exact HO_7.out) (Kd.R_base ho0) hb); have n1_ := Aside0.mk (Kd.Q_elder' (by (with_reducible repeat (first | apply Kd.Q_alloc | apply Kd.Q_drewN | apply Kd.Q_drew)); exact HO_323000.out) (Kd.R_base ho0) hb); have n2_ := Aside0.mk (Kd.R_lower (Kd.R_new' (Kd.R_new' ho0 (Kd.R_lt (by (with_reducible repeat (first | apply Kd.R_alloc | apply Kd.R_drewN | apply Kd.R_drew)); exact HO_7.out))) (Kd.Q_lt (by (with_reducible repeat (first | apply Kd.Q_alloc | apply Kd.Q_drewN | apply Kd.Q_drew)); exact HO_323000.out))) (below_size (by repeat (first | (with_reducible first | exact HB.out | apply below_alloc | apply pw_below_drewN | apply below_drew1 | refine below_set ?_ GE322.out) | exact HB.out)))); have n3_ := Aside0.mk (blk_below (g := gb322) (o := .cells #[u323000, .int .i64 x323001_2] 51 (0, 0)) (by (with_reducible repeat (first | refine blk_drewN ?_ _ | refine blk_drew ?_ | refine blk_alloc ?_ _)); exact BK322.out) hb); have n4_ := Aside0.mk (below_step (by repeat (first | (with_reducible first | exact HB.out | apply below_alloc | apply pw_below_drewN | apply below_drew1 | refine below_set ?_ GE322.out) | exact HB.out)) hb); clear HO_7; clear HO_323000; clear BK322; clear HB; have HO_7 := n0_; have HO_323000 := n1_; have HO326 := n2_; have BK322 := n3_; have HB := n4_; clear n0_ n1_ n2_ n3_ n4_; (try clear hb); (try clear hb2); (try clear hk); (try clear hi); (try clear ho0); obtain ⟨Ao30, co30, eo30⟩ := Kd.R_slice HO326.out; subst eo30) | ((with_reducible refine gate_callee (f := 17) rfl ?_); refine goesL_ (some 49) rfl rfl Try.func17 (by kernel_rfl) rfl #[.pointer (some ⟨gb322, 0, none⟩), .int .i64 (-9223372036854775808), .int .i64 9223372036854775807] rfl (by (try simp only [List.map_toArray, List.map_cons, List.map_nil]); first | done | rfl | (simp only [List.length_drop, List.length_take]; rfl)) ?_; (with_reducible refine (pack_Box_Get.calls k2 gb322 (fun k_ => some k_ = (u323000 : Value).ownBlock) u323000 x323000_2 x323001_2 (-9223372036854775808) 9223372036854775807 t327 t328 t331 w _ ?side1 ?side2 ?side3 ?side4 A25.out).mono ?_); (case side1 => repeat (first | (with_reducible first | exact HB.out | apply below_alloc | apply pw_below_drewN | apply below_drew1 | refine below_set ?_ GE322.out) | exact HB.out)); (case side2 => exact (by (with_reducible repeat (first | refine blk_drewN ?_ _ | refine blk_drew ?_ | refine blk_alloc ?_ _)); exact BK322.out)); (case side3 => exact GE322.out); (case side4 => exact Kd.Q_tight rfl HO_323000.out); rintro e w31 ⟨v329, rfl, ho0, hi, hb, hkp⟩; refine ⟨_, rfl, ?_⟩; have n0_ := Aside0.mk (Kd.R_mono (ok' := fun k_ => some k_ ≠ (.slice Ao30 t324.length co30 : Value).ownBlock ∧ some k_ ≠ (v329 : Value).ownBlock) (Kd.R_keptB ((Kd.R_types HO_7.out BK322.out (by decide))) hkp (fun k_ hk_ hs_ => Or.elim hs_ (fun hs_ => (hk_.1.1) hs_) (fun e_ => (hk_.2) e_))) (fun k_ hk_ => ⟨hk_.1.1.2, fun e_ => Or.elim (ho0.1 k_ e_.symm) (fun hs_ => hk_.2.1 (.inl hs_)) (fun hn_ => Nat.not_le.2 hk_.2.2 hn_)⟩)); have n1_ := Aside0.mk (hi); have n2_ := Aside0.mk (Kd.R_mono (ok' := fun k_ => some k_ ≠ (.slice Ao19 t311.length co19 : Value).ownBlock ∧ some k_ ≠ (v329 : Value).ownBlock) (Kd.R_keptB ((Kd.R_types HO326.out BK322.out (by decide))) hkp (fun k_ hk_ hs_ => Or.elim hs_ (fun hs_ => (hk_.1.2) hs_) (fun e_ => (hk_.2) e_))) (fun k_ hk_ => ⟨hk_.1.1.1.2, fun e_ => Or.elim (ho0.1 k_ e_.symm) (fun hs_ => hk_.2.1 (.inl hs_)) (fun hn_ => Nat.not_le.2 hk_.2.2 hn_)⟩)); have n3_ := Aside0.mk (Kd.Q_mono (ok' := fun k_ => some k_ ≠ (.slice Ao19 t311.length co19 : Value).ownBlock ∧ some k_ ≠ (.slice Ao30 t324.length co30 : Value).ownBlock) ho0 (fun k_ hk_ => ⟨Or.elim hk_ (fun hs_ => fun e_ => ((((Kd.R_types HO_7.out BK322.out (by decide))).1 k_ e_.symm).1.1) hs_) (fun hn_ => (Kd.fresh' (Kd.R_lt (by (with_reducible repeat (first | apply Kd.R_alloc | apply Kd.R_drewN | apply Kd.R_drew)); exact HO_7.out)) k_ hn_)), Or.elim hk_ (fun hs_ => fun e_ => ((((Kd.R_types HO326.out BK322.out (by decide))).1 k_ e_.symm).1.2) hs_) (fun hn_ => (Kd.fresh' (Kd.R_lt (by (with_reducible repeat (first | apply Kd.R_alloc | apply Kd.R_drewN | apply Kd.R_drew)); exact HO326.out)) k_ hn_))⟩)); have n4_ := Aside0.mk (hb); clear HO_7; clear BK322; clear HO326; clear HB; clear HO_323000; have HO_7 := n0_; have BK322 := n1_; have HO326 := n2_; have HO330 := n3_; have HB := n4_; clear n0_ n1_ n2_ n3_ n4_; (try clear hb); (try clear hkp); (try clear hi); (try clear ho0)) | (go_at_call 18; (with_reducible refine (pack_Box_Fault.calls gb322 (fun k_ => some k_ = (v329 : Value).ownBlock) v329 t328 t331 t332 t333 t336 w _ ?side1 ?side2 ?side3 ?side4 A28.out).mono ?_); (case side1 => repeat (first | (with_reducible first | exact HB.out | apply below_alloc | apply pw_below_drewN | apply below_drew1 | refine below_set ?_ GE322.out) | exact HB.out)); (case side2 => exact (by (with_reducible repeat (first | refine blk_drewN ?_ _ | refine blk_drew ?_ | refine blk_alloc ?_ _)); exact BK322.out)); (case side3 => exact GE322.out); (case side4 => exact Kd.Q_tight rfl HO330.out); rintro e w32 ⟨v334, rfl, ho0, hi, hb, hkp⟩; have n0_ := Aside0.mk (Kd.R_mono (ok' := fun k_ => some k_ ≠ (.slice Ao30 t324.length co30 : Value).ownBlock ∧ some k_ ≠ (v334 : Value).ownBlock) (Kd.R_keptB ((Kd.R_types HO_7.out BK322.out (by decide))) hkp (fun k_ hk_ hs_ => Or.elim hs_ (fun hs_ => (hk_.1.2) hs_) (fun e_ => (hk_.2) e_))) (fun k_ hk_ => ⟨hk_.1.1.1, fun e_ => Or.elim (ho0.1 k_ e_.symm) (fun hs_ => hk_.2.1 (.inl hs_)) (fun hn_ => Nat.not_le.2 hk_.2.2 hn_)⟩)); have n1_ := Aside0.mk (hi); have n2_ := Aside0.mk (Kd.R_mono (ok' := fun k_ => some k_ ≠ (.slice Ao19 t311.length co19 : Value).ownBlock ∧ some k_ ≠ (v334 : Value).ownBlock) (Kd.R_keptB ((Kd.R_types HO326.out BK322.out (by decide))) hkp (fun k_ hk_ hs_ => Or.elim hs_ (fun hs_ => (hk_.1.2) hs_) (fun e_ => (hk_.2) e_))) (fun k_ hk_ => ⟨hk_.1.1.1, fun e_ => Or.elim (ho0.1 k_ e_.symm) (fun hs_ => hk_.2.1 (.inl hs_)) (fun hn_ => Nat.not_le.2 hk_.2.2 hn_)⟩)); have n3_ := Aside0.mk (Kd.Q_mono (ok' := fun k_ => some k_ ≠ (.slice Ao19 t311.length co19 : Value).ownBlock ∧ some k_ ≠ (.slice Ao30 t324.length co30 : Value).ownBlock) ho0 (fun k_ hk_ => ⟨Or.elim hk_ (fun hs_ => fun e_ => ((((Kd.R_types HO_7.out BK322.out (by decide))).1 k_ e_.symm).1.2) hs_) (fun hn_ => (Kd.fresh' (Kd.R_lt (by (with_reducible repeat (first | apply Kd.R_alloc | apply Kd.R_drewN | apply Kd.R_drew)); exact HO_7.out)) k_ hn_)), Or.elim hk_ (fun hs_ => fun e_ => ((((Kd.R_types HO326.out BK322.out (by decide))).1 k_ e_.symm).1.2) hs_) (fun hn_ => (Kd.fresh' (Kd.R_lt (by (with_reducible repeat (first | apply Kd.R_alloc | apply Kd.R_drewN | apply Kd.R_drew)); exact HO326.out)) k_ hn_))⟩)); have n4_ := Aside0.mk (hb); clear HO_7; clear BK322; clear HO326; clear HB; clear HO330; have HO_7 := n0_; have BK322 := n1_; have HO326 := n2_; have HO335 := n3_; have HB := n4_; clear n0_ n1_ n2_ n3_ n4_; (try clear hb); (try clear hkp); (try clear hi); (try clear ho0)))
             go_ret
             exact ⟨by first | rfl | (simp [errW_none, errW_some] <;> rfl) | (simp only [← hji14]; first | rfl | (simp [errW_none, errW_some] <;> rfl)) | (simp [*, errW_none, errW_some] <;> rfl), by repeat (first | (with_reducible first | exact HB.out | apply below_alloc | apply pw_below_drewN | apply below_drew1 | refine below_set ?_ GE322.out) | exact HB.out)⟩
            ·rw [if_neg c27] at H
             have c27b0 : (t327 == 0) = false := beq_eq_false_iff_ne.mpr c27
             have c27b1 : (t327 != 0) = true := bne_iff_ne.mpr c27
             exact absurd H (by simp)
           ·rw [if_neg c26] at H
            have c26b0 : decide (ji14 < (wrap64 (x10_2 + (t324.length : Int)))) = false := decide_eq_false c26
            clear c26
            by_cases c33 : t327 = (rd l0 x11_2)
            ·rw [if_pos c33] at H
             have c33b0 : (t327 == (rd l0 x11_2)) = true := beq_iff_eq.mpr c33
             have c33b1 : (t327 != (rd l0 x11_2)) = false := bne_eq_false_iff_eq.mpr c33
             clear c33
             have H' := Aside0.mk H
             clear H
             have p323 : 0 ≤ (x11_2 : Int) := of_decide_eq_true (by first | (with_reducible assumption) | assumption)
             have q323 : x11_2 < (l0.length : Int) := of_decide_eq_true (by first | (with_reducible assumption) | assumption)
             obtain ⟨ad323, e323, hx323_0⟩ := Kd.at_int HR0.out x11_2 p323 q323
             cases e323
             replace hx323_0 := (HB.out.cell (World.block_lt_of_cell? w _ hx323_0)).trans hx323_0
             replace p323 := eq_true p323
             replace q323 := eq_true q323
             go_wp2_with (first | ((with_reducible refine gate_callee (f := 14) rfl ?_); refine goesL_ (some 46) rfl rfl Try.func14 (by kernel_rfl) rfl #[.int .i64 (rd l0 x11_2)] rfl (by (try simp only [List.map_toArray, List.map_cons, List.map_nil]); first | done | rfl | (simp only [List.length_drop, List.length_take]; rfl)) ?_; (with_reducible refine (paybookref05_Pack.calls k2 (rd l0 x11_2) t324 _ A24.out).mono ?_); rintro e w34 ⟨v325, rfl, ho0, hb⟩; refine ⟨_, rfl, ?_⟩; have n0_ := Aside0.mk (Kd.R_elder' (by (with_reducible repeat (first | apply Kd.R_alloc | apply Kd.R_drewN | apply Kd.R_drew)); exact HO_7.out) (Kd.R_base ho0) hb); have n1_ := Aside0.mk (Kd.Q_elder' (by (with_reducible repeat (first | apply Kd.Q_alloc | apply Kd.Q_drewN | apply Kd.Q_drew)); exact HO_323000.out) (Kd.R_base ho0) hb); have n2_ := Aside0.mk (Kd.R_lower (Kd.R_new' (Kd.R_new' ho0 (Kd.R_lt (by (with_reducible repeat (first | apply Kd.R_alloc | apply Kd.R_drewN | apply Kd.R_drew)); exact HO_7.out))) (Kd.Q_lt (by (with_reducible repeat (first | apply Kd.Q_alloc | apply Kd.Q_drewN | apply Kd.Q_drew)); exact HO_323000.out))) (below_size (by repeat (first | (with_reducible first | exact HB.out | apply below_alloc | apply pw_below_drewN | apply below_drew1 | refine below_set ?_ GE322.out) | exact HB.out)))); have n3_ := Aside0.mk (blk_below (g := gb322) (o := .cells #[u323000, .int .i64 x323001_2] 51 (0, 0)) (by (with_reducible repeat (first | refine blk_drewN ?_ _ | refine blk_drew ?_ | refine blk_alloc ?_ _)); exact BK322.out) hb); have n4_ := Aside0.mk (below_step (by repeat (first | (with_reducible first | exact HB.out | apply below_alloc | apply pw_below_drewN | apply below_drew1 | refine below_set ?_ GE322.out) | exact HB.out)) hb); clear HO_7; clear HO_323000; clear BK322; clear HB; have HO_7 := n0_; have HO_323000 := n1_; have HO326 := n2_; have BK322 := n3_; have HB := n4_; clear n0_ n1_ n2_ n3_ n4_; (try clear hb); (try clear hb2); (try clear hk); (try clear hi); (try clear ho0); obtain ⟨Ao35, co35, eo35⟩ := Kd.R_slice HO326.out; subst eo35) | ((with_reducible refine gate_callee (f := 17) rfl ?_); refine goesL_ (some 49) rfl rfl Try.func17 (by kernel_rfl) rfl #[.pointer (some ⟨gb322, 0, none⟩), .int .i64 (-9223372036854775808), .int .i64 9223372036854775807] rfl (by (try simp only [List.map_toArray, List.map_cons, List.map_nil]); first | done | rfl | (simp only [List.length_drop, List.length_take]; rfl)) ?_; (with_reducible refine (pack_Box_Get.calls k2 gb322 (fun k_ => some k_ = (u323000 : Value).ownBlock) u323000 x323000_2 x323001_2 (-9223372036854775808) 9223372036854775807 t327 t328 t331 w _ ?side1 ?side2 ?side3 ?side4 A25.out).mono ?_); (case side1 => repeat (first | (with_reducible first | exact HB.out | apply below_alloc | apply pw_below_drewN | apply below_drew1 | refine below_set ?_ GE322.out) | exact HB.out)); (case side2 => exact (by (with_reducible repeat (first | refine blk_drewN ?_ _ | refine blk_drew ?_ | refine blk_alloc ?_ _)); exact BK322.out)); (case side3 => exact GE322.out); (case side4 => exact Kd.Q_tight rfl HO_323000.out); rintro e w36 ⟨v329, rfl, ho0, hi, hb, hkp⟩; refine ⟨_, rfl, ?_⟩; have n0_ := Aside0.mk (Kd.R_mono (ok' := fun k_ => some k_ ≠ (.slice Ao35 t324.length co35 : Value).ownBlock ∧ some k_ ≠ (v329 : Value).ownBlock) (Kd.R_keptB ((Kd.R_types HO_7.out BK322.out (by decide))) hkp (fun k_ hk_ hs_ => Or.elim hs_ (fun hs_ => (hk_.1.1) hs_) (fun e_ => (hk_.2) e_))) (fun k_ hk_ => ⟨hk_.1.1.2, fun e_ => Or.elim (ho0.1 k_ e_.symm) (fun hs_ => hk_.2.1 (.inl hs_)) (fun hn_ => Nat.not_le.2 hk_.2.2 hn_)⟩)); have n1_ := Aside0.mk (hi); have n2_ := Aside0.mk (Kd.R_mono (ok' := fun k_ => some k_ ≠ (.slice Ao19 t311.length co19 : Value).ownBlock ∧ some k_ ≠ (v329 : Value).ownBlock) (Kd.R_keptB ((Kd.R_types HO326.out BK322.out (by decide))) hkp (fun k_ hk_ hs_ => Or.elim hs_ (fun hs_ => (hk_.1.2) hs_) (fun e_ => (hk_.2) e_))) (fun k_ hk_ => ⟨hk_.1.1.1.2, fun e_ => Or.elim (ho0.1 k_ e_.symm) (fun hs_ => hk_.2.1 (.inl hs_)) (fun hn_ => Nat.not_le.2 hk_.2.2 hn_)⟩)); have n3_ := Aside0.mk (Kd.Q_mono (ok' := fun k_ => some k_ ≠ (.slice Ao19 t311.length co19 : Value).ownBlock ∧ some k_ ≠ (.slice Ao35 t324.length co35 : Value).ownBlock) ho0 (fun k_ hk_ => ⟨Or.elim hk_ (fun hs_ => fun e_ => ((((Kd.R_types HO_7.out BK322.out (by decide))).1 k_ e_.symm).1.1) hs_) (fun hn_ => (Kd.fresh' (Kd.R_lt (by (with_reducible repeat (first | apply Kd.R_alloc | apply Kd.R_drewN | apply Kd.R_drew)); exact HO_7.out)) k_ hn_)), Or.elim hk_ (fun hs_ => fun e_ => ((((Kd.R_types HO326.out BK322.out (by decide))).1 k_ e_.symm).1.2) hs_) (fun hn_ => (Kd.fresh' (Kd.R_lt (by (with_reducible repeat (first | apply Kd.R_alloc | apply Kd.R_drewN | apply Kd.R_drew)); exact HO326.out)) k_ hn_))⟩)); have n4_ := Aside0.mk (hb); clear HO_7; clear BK322; clear HO326; clear HB; clear HO_323000; have HO_7 := n0_; have BK322 := n1_; have HO326 := n2_; have HO330 := n3_; have HB := n4_; clear n0_ n1_ n2_ n3_ n4_; (try clear hb); (try clear hkp); (try clear hi); (try clear ho0); have p337 : 0 ≤ (x11_2 : Int) := of_decide_eq_true (by first | (with_reducible assumption) | assumption); have q337 : x11_2 < (l0.length : Int) := of_decide_eq_true (by first | (with_reducible assumption) | assumption); obtain ⟨ad337, e337, hx337_0⟩ := Kd.at_int HR0.out x11_2 p337 q337; obtain rfl : ad323 = ad337 := (by injection e337); replace hx337_0 := (HB.out.cell (World.block_lt_of_cell? w _ hx337_0)).trans hx337_0; replace p337 := eq_true p337; replace q337 := eq_true q337))
             go_roundg k2
             case measure => have := HJ3.out; have := HK2.out; omega
             case rel => exact ⟨(wrap64 (x10_2 + (t324.length : Int))), (wrap64 (x11_2 + 1)), (t328), (t331), (v329), (by first | rfl | (simp; done) | (simp [*]; done)), (by first | rfl | (simp; done) | (simp [*]; done)), H', ⟨by have := HJ3.out; have := HK2.out; omega⟩, ⟨by (with_reducible repeat (first | apply Kd.R_alloc | apply Kd.R_drewN | apply Kd.R_drew)); exact Kd.R_mono HO_7.out (fun _ hk => hk.2)⟩, ⟨by (with_reducible repeat (first | apply Kd.Q_alloc | apply Kd.Q_drewN | apply Kd.Q_drew)); exact Kd.Q_mono HO330.out (fun _ hk => hk.1)⟩, ⟨by (with_reducible repeat (first | refine blk_drewN ?_ _ | refine blk_drew ?_ | refine blk_alloc ?_ _)); exact BK322.out⟩, ⟨by repeat (first | (with_reducible first | exact HB.out | apply below_alloc | apply pw_below_drewN | apply below_drew1 | refine below_set ?_ GE322.out) | exact HB.out)⟩⟩
            ·rw [if_neg c33] at H
             have c33b0 : (t327 == (rd l0 x11_2)) = false := beq_eq_false_iff_ne.mpr c33
             have c33b1 : (t327 != (rd l0 x11_2)) = true := bne_iff_ne.mpr c33
             exact absurd H (by simp)
          ·rw [if_neg c23] at H
           exact absurd H (by simp)
         ·rw [if_neg c22] at H
          have c22b0 : decide (x11_2 < (l0.length : Int)) = false := decide_eq_false c22
          clear c22
          by_cases c37 : ([] : List Int).length + t311.length < 140737488355328
          ·rw [if_pos c37] at H
           have LMc37 := Aside0.mk c37
           clear c37
           obtain ⟨y338, hy338⟩ : ∃ y_ : List Int, y_ = (([] : List Int) ++ t311) := ⟨_, rfl⟩
           replace H : (if y338.length < 140737488355328 then ((pack_Of.f (y338 ++ [a2])).bind fun bt344 => (paybooklaw05_PackCuts.l1 k2 l0 0 x323000_2 x323001_2 bt344.1 bt344.2)) else (none)) = some true := by first | (rw [hy338]; with_reducible exact H) | (have H2_ := (Option.bind_some _ _).symm.trans H; rw [hy338]; with_reducible exact H2_) | (have H2_ := (Option.bind_some _ _).symm.trans H; with_reducible exact H2_) | with_reducible exact H | (rw [hy338]; exact H) | exact H
           have Ny338 := Aside0.mk hy338
           clear hy338
           by_cases c38 : y338.length < 140737488355328
           ·rw [if_pos c38] at H
            have LMc38 := Aside0.mk c38
            clear c38
            obtain ⟨y341, hy341⟩ : ∃ y_ : List Int, y_ = (y338 ++ [a2]) := ⟨_, rfl⟩
            replace H : ((pack_Of.f y341).bind fun bt344 => (paybooklaw05_PackCuts.l1 k2 l0 0 x323000_2 x323001_2 bt344.1 bt344.2)) = some true := by first | (rw [hy341]; with_reducible exact H) | (have H2_ := (Option.bind_some _ _).symm.trans H; rw [hy341]; with_reducible exact H2_) | (have H2_ := (Option.bind_some _ _).symm.trans H; with_reducible exact H2_) | with_reducible exact H | (rw [hy341]; exact H) | exact H
            have Ny341 := Aside0.mk hy341
            clear hy341
            replace H := Option.bind_eq_some_iff.mp H
            obtain ⟨⟨t344, t347⟩, A390, H⟩ := H
            replace H : (paybooklaw05_PackCuts.l1 k2 l0 0 x323000_2 x323001_2 t344 t347) = some true := H
            have A39 := Aside0.mk A390
            clear A390
            have H' := Aside0.mk H
            clear H
            go_wp2_with (first | ((with_reducible refine gate_builtin (b := .append) (xs := #[.const (.slice none 0 0), .tmp 71]) rfl ?_); (try (refine gate_guard (by rfl) ?_; dsimp only)); at_builtin; refine Kd.R_append_rows (Kd.int .u8) (w0 := w) w.heap.size rfl (.const (.slice none 0 0)) (.tmp 71) 24 5 (.int .u8 0) 1 rfl Try.underlying24 info5 rfl (by decide) (by omega) (.slice none 0 0) ([] : List Int) t311 _ _ _ (fun k_ => some k_ ≠ (.slice Ao19 t311.length co19 : Value).ownBlock ∧ some k_ ≠ (u323000 : Value).ownBlock) (fun _ => False) rfl rfl ?aO ?aR (fun _ _ h => h) (fun _ h => h.elim) ?aF ?aB ?aS ?aL ?_; (case aR => repeat (first | exact (Kd.R_reads' HO_7.out).2.2 | (with_reducible refine Kd.C_alloc ?_ _) | (with_reducible refine Kd.C_drewN ?_ _) | (with_reducible refine Kd.C_drew ?_))); (case aB => exact (by repeat (first | (with_reducible first | exact HB.out | apply below_alloc | apply pw_below_drewN | apply below_drew1 | refine below_set ?_ GE322.out) | exact HB.out))); (case aF => exact (fun k_ hk => ⟨Kd.fresh' (Kd.R_lt (by (with_reducible repeat (first | apply Kd.R_alloc | apply Kd.R_drewN | apply Kd.R_drew)); exact HO_7.out)) k_ hk, Kd.fresh' (Kd.Q_lt (by (with_reducible repeat (first | apply Kd.Q_alloc | apply Kd.Q_drewN | apply Kd.Q_drew)); exact HO_323000.out)) k_ hk⟩)); (case aO => exact ((Kd.R_nil _ _ _ _ (fun k_ => some k_ ≠ (.slice Ao19 t311.length co19 : Value).ownBlock ∧ some k_ ≠ (u323000 : Value).ownBlock)))); (case aS => exact (below_size (by repeat (first | (with_reducible first | exact HB.out | apply below_alloc | apply pw_below_drewN | apply below_drew1 | refine below_set ?_ GE322.out) | exact HB.out)))); (case aL => have := LMc37.out; omega); intro v339 w40 ho hb hg hat; rw [← Ny338.out] at ho; have n0_ := Aside0.mk (Kd.R_after (Kd.R_apart_nil (by (with_reducible repeat (first | apply Kd.R_alloc | apply Kd.R_drewN | apply Kd.R_drew)); exact HO_7.out)) hg hat); have n1_ := Aside0.mk (Kd.Q_after (Kd.Q_apart_nil (by (with_reducible repeat (first | apply Kd.Q_alloc | apply Kd.Q_drewN | apply Kd.Q_drew)); exact HO_323000.out)) hg hat); have n2_ := Aside0.mk (blk_grown (g := gb322) (o := .cells #[u323000, .int .i64 x323001_2] 51 (0, 0)) (by (with_reducible repeat (first | refine blk_drewN ?_ _ | refine blk_drew ?_ | refine blk_alloc ?_ _)); exact BK322.out) hg (by simp [Value.ownBlock])); have n3_ := Aside0.mk (hb); have n4_ := Aside0.mk (ho); clear HO_7; clear HO_323000; clear BK322; clear HB; have HO_7 := n0_; have HO_323000 := n1_; have BK322 := n2_; have HB := n3_; have HO340 := n4_; clear n0_ n1_ n2_ n3_ n4_; clear ho hb hg hat) | ((with_reducible refine gate_builtin (b := .append) (xs := #[.tmp 72, .tmp 74]) rfl ?_); (try (refine gate_guard (by rfl) ?_; dsimp only)); at_builtin; refine Kd.R_append (Kd.int .u8) (w0 := w) w.heap.size rfl (.tmp 72) (.tmp 74) 24 5 (.int .u8 0) 1 rfl Try.underlying24 info5 rfl (by decide) (by omega) v339 y338 a2 [.int .u8 a2] (fun k_ => some k_ ≠ (.slice Ao19 t311.length co19 : Value).ownBlock ∧ some k_ ≠ (u323000 : Value).ownBlock) (fun _ => False) rfl rfl ?aP (fun _ hk => hk.elim) ?aF ?aO ?aB ?aS ?aL ?_; (case aP => exact rfl); (case aB => exact (by repeat (first | (with_reducible first | exact HB.out | apply below_alloc | apply pw_below_drewN | apply below_drew1 | refine below_set ?_ GE322.out) | exact HB.out))); (case aF => exact (fun k_ hk => ⟨Kd.fresh' (Kd.R_lt (by (with_reducible repeat (first | apply Kd.R_alloc | apply Kd.R_drewN | apply Kd.R_drew)); exact HO_7.out)) k_ hk, Kd.fresh' (Kd.Q_lt (by (with_reducible repeat (first | apply Kd.Q_alloc | apply Kd.Q_drewN | apply Kd.Q_drew)); exact HO_323000.out)) k_ hk⟩)); (case aO => exact (by (with_reducible repeat (first | apply Kd.R_alloc | apply Kd.R_drewN | apply Kd.R_drew)); exact HO340.out)); (case aS => exact (below_size (by repeat (first | (with_reducible first | exact HB.out | apply below_alloc | apply pw_below_drewN | apply below_drew1 | refine below_set ?_ GE322.out) | exact HB.out)))); (case aL => have := LMc38.out; omega); intro v342 w41 ho hb hg hat; rw [← Ny341.out] at ho; have n0_ := Aside0.mk (Kd.R_after (ok := (fun k_ => some k_ ≠ (u323000 : Value).ownBlock)) (by (with_reducible repeat (first | apply Kd.R_alloc | apply Kd.R_drewN | apply Kd.R_drew)); exact HO_7.out) hg hat); have n1_ := Aside0.mk (Kd.Q_after (ok := (fun k_ => some k_ ≠ (.slice Ao19 t311.length co19 : Value).ownBlock)) (by (with_reducible repeat (first | apply Kd.Q_alloc | apply Kd.Q_drewN | apply Kd.Q_drew)); exact HO_323000.out) hg hat); have n2_ := Aside0.mk (blk_grown (g := gb322) (o := .cells #[u323000, .int .i64 x323001_2] 51 (0, 0)) (by (with_reducible repeat (first | refine blk_drewN ?_ _ | refine blk_drew ?_ | refine blk_alloc ?_ _)); exact BK322.out) hg (Kd.R_ne HO340.out BK322.out (by decide))); have n3_ := Aside0.mk (hb); have n4_ := Aside0.mk (ho); clear HO_7; clear HO_323000; clear BK322; clear HB; clear HO340; have HO_7 := n0_; have HO_323000 := n1_; have BK322 := n2_; have HB := n3_; have HO343 := n4_; clear n0_ n1_ n2_ n3_ n4_; clear ho hb hg hat; obtain ⟨Ao42, co42, eo42⟩ := Kd.R_slice HO343.out; subst eo42) | ((with_reducible refine gate_callee (f := 16) rfl ?_); refine goesL_ (some 76) rfl rfl Try.func16 (by kernel_rfl) rfl #[.slice Ao42 y341.length co42] rfl (by (try simp only [List.map_toArray, List.map_cons, List.map_nil]); first | done | rfl | (simp only [List.length_drop, List.length_take]; rfl)) ?_; (with_reducible refine (pack_Of.calls _ _ y341 t344 t347 _ ?side1 ?side2 A39.out).mono ?_); (case side1 => repeat (first | exact (Kd.R_reads' HO343.out).2.2 | (with_reducible refine Kd.C_alloc ?_ _) | (with_reducible refine Kd.C_drewN ?_ _) | (with_reducible refine Kd.C_drew ?_))); (case side2 => exact (Kd.R_reads' HO343.out).2.1); rintro e w43 ⟨v345, gb348, rfl, ho0, hnb348, hnl348, hb⟩; refine ⟨_, rfl, ?_⟩; have n0_ := Aside0.mk (Kd.R_elder' (by (with_reducible repeat (first | apply Kd.R_alloc | apply Kd.R_drewN | apply Kd.R_drew)); exact HO_7.out) (Kd.R_base ho0) hb); have n1_ := Aside0.mk (Kd.Q_elder' (by (with_reducible repeat (first | apply Kd.Q_alloc | apply Kd.Q_drewN | apply Kd.Q_drew)); exact HO_323000.out) (Kd.R_base ho0) hb); have n2_ := Aside0.mk (Kd.R_elder' (by (with_reducible repeat (first | apply Kd.R_alloc | apply Kd.R_drewN | apply Kd.R_drew)); exact HO343.out) (Kd.R_base ho0) hb); have n3_ := Aside0.mk (Kd.R_lower (Kd.R_new' (Kd.R_new' (Kd.R_new' ho0 (Kd.R_lt (by (with_reducible repeat (first | apply Kd.R_alloc | apply Kd.R_drewN | apply Kd.R_drew)); exact HO_7.out))) (Kd.Q_lt (by (with_reducible repeat (first | apply Kd.Q_alloc | apply Kd.Q_drewN | apply Kd.Q_drew)); exact HO_323000.out))) (Kd.R_lt (by (with_reducible repeat (first | apply Kd.R_alloc | apply Kd.R_drewN | apply Kd.R_drew)); exact HO343.out))) (below_size (by repeat (first | (with_reducible first | exact HB.out | apply below_alloc | apply pw_below_drewN | apply below_drew1 | refine below_set ?_ GE322.out) | exact HB.out)))); have n4_ := Aside0.mk (blk_below (g := gb322) (o := .cells #[u323000, .int .i64 x323001_2] 51 (0, 0)) (by (with_reducible repeat (first | refine blk_drewN ?_ _ | refine blk_drew ?_ | refine blk_alloc ?_ _)); exact BK322.out) hb); have n5_ := Aside0.mk (hnb348); have n6_ := Aside0.mk ((Nat.le_trans (below_size (by repeat (first | (with_reducible first | exact HB.out | apply below_alloc | apply pw_below_drewN | apply below_drew1 | refine below_set ?_ GE322.out) | exact HB.out))) hnl348 : w.heap.size ≤ gb348)); have n7_ := Aside0.mk ((Nat.le_trans (below_size (by repeat (first | (with_reducible first | exact HB.out | apply below_alloc | apply pw_below_drewN | apply below_drew1 | refine below_set ?_ GE322.out) | exact HB.out))) hnl348 : w.heap.size ≤ gb348)); have n8_ := Aside0.mk ((Nat.ne_of_lt (Nat.lt_of_lt_of_le (blk_lt (g := gb322) (o := .cells #[u323000, .int .i64 x323001_2] 51 (0, 0)) (by (with_reducible repeat (first | refine blk_drewN ?_ _ | refine blk_drew ?_ | refine blk_alloc ?_ _)); exact BK322.out)) hnl348) : gb322 ≠ gb348)); have n9_ := Aside0.mk ((Nat.ne_of_gt (Nat.lt_of_lt_of_le (blk_lt (g := gb322) (o := .cells #[u323000, .int .i64 x323001_2] 51 (0, 0)) (by (with_reducible repeat (first | refine blk_drewN ?_ _ | refine blk_drew ?_ | refine blk_alloc ?_ _)); exact BK322.out)) hnl348) : gb348 ≠ gb322)); have n10_ := Aside0.mk (below_step (by repeat (first | (with_reducible first | exact HB.out | apply below_alloc | apply pw_below_drewN | apply below_drew1 | refine below_set ?_ GE322.out) | exact HB.out)) hb); clear HO_7; clear HO_323000; clear HO343; clear BK322; clear HB; have HO_7 := n0_; have HO_323000 := n1_; have HO343 := n2_; have HO346 := n3_; have BK322 := n4_; have BK348 := n5_; have GW348 := n6_; have GE348 := n7_; have NB322_348 := n8_; have NB348_322 := n9_; have HB := n10_; clear n0_ n1_ n2_ n3_ n4_ n5_ n6_ n7_ n8_ n9_ n10_; (try clear hb); (try clear hb2); (try clear hk); (try clear hi); (try clear ho0)))
            go_loopg [15] k2 (fun kq v15 w' => ∃ (x15_3 : Int) (x349000_3 : List Int) (x349001_3 : Int) (u349000 : Value), v15 = .int .i64 x15_3 ∧ Aside0 (paybooklaw05_PackCuts.l1 kq l0 x15_3 x323000_2 x323001_2 x349000_3 x349001_3 = some true) ∧ Aside0 (kq ≤ k2) ∧ Aside0 (Kd.Q (Kd.int .u8) 5 w' w.heap.size (fun k_ => some k_ ≠ (u349000 : Value).ownBlock) u323000 x323000_2) ∧ Aside0 (Kd.Q (Kd.int .u8) 5 w' w.heap.size (fun k_ => some k_ ≠ (u323000 : Value).ownBlock) u349000 x349000_3) ∧ Aside0 (w'.heap[gb322]? = some (.cells #[u323000, .int .i64 x323001_2] 51 (0, 0))) ∧ Aside0 (w'.heap[gb348]? = some (.cells #[u349000, .int .i64 x349001_3] 51 (0, 0))) ∧ Aside0 (Below w.heap.size w w'))
            case atStart => exact ⟨(0), (t344), (t347), (v345), (by first | rfl | (simp; done) | (simp [*]; done)), H', ⟨Nat.le_refl _⟩, ⟨by (with_reducible repeat (first | apply Kd.Q_alloc | apply Kd.Q_drewN | apply Kd.Q_drew)); exact Kd.Q_mono HO_323000.out (fun _ hk => hk.2)⟩, ⟨Kd.Q_of_R (by (with_reducible repeat (first | apply Kd.R_alloc | apply Kd.R_drewN | apply Kd.R_drew)); exact Kd.R_mono HO346.out (fun _ hk => hk.1.2))⟩, ⟨by (with_reducible repeat (first | refine blk_drewN ?_ _ | refine blk_drew ?_ | refine blk_alloc ?_ _)); exact BK322.out⟩, ⟨by (with_reducible repeat (first | refine blk_drewN ?_ _ | refine blk_drew ?_ | refine blk_alloc ?_ _)); exact BK348.out⟩, ⟨by repeat (first | (with_reducible first | exact HB.out | apply below_alloc | apply pw_below_drewN | apply below_drew1 | refine below_set ?_ GE322.out | refine below_set ?_ GE348.out) | exact HB.out)⟩⟩
            case round =>
             clear H'
             try clear c1
             try clear c2
             try clear p2
             try clear q2
             try clear c3
             try clear p3
             try clear q3
             try clear hx3
             try clear c5
             try clear c6
             try clear p6
             try clear c9
             try clear c10
             try clear c13
             try clear c13b0
             try clear c13b1
             try clear c14
             try clear c15
             try clear c15b0
             try clear c15b1
             try clear c16
             try clear c16b0
             try clear c16b1
             try clear c17
             try clear q20
             try clear c22
             try clear c22b0
             try clear c23
             try clear c23b0
             try clear c26
             try clear c26b0
             try clear c27
             try clear c27b0
             try clear c27b1
             try clear p32
             try clear q32
             try clear hx32
             try clear c33
             try clear c33b0
             try clear c33b1
             try clear p33
             try clear q33
             try clear hx33
             try clear c37
             try clear c38
             try clear hx323_0
             try clear hx337_0
             try clear p2
             try clear p323
             try clear p337
             try clear p6
             try clear q2
             try clear q20
             try clear q323
             try clear q337
             obtain ⟨x15_3, x349000_3, x349001_3, u349000, rfl, HA, HK3, HO_323000, HO_349000, BK322, BK348, HB⟩ := hrel
             cases gk with
             | zero => exact absurd HA.out (by simp [paybooklaw05_PackCuts.l1])
             | succ k3 =>
              have H := HA.out
              clear HA
              simp only [paybooklaw05_PackCuts.l1] at H
              by_cases c44 : x15_3 < (l0.length : Int)
              ·rw [if_pos c44] at H
               have c44b0 : decide (x15_3 < (l0.length : Int)) = true := decide_eq_true c44
               clear c44
               replace H := Option.bind_eq_some_iff.mp H
               obtain ⟨⟨t349, t350, t353⟩, A450, H⟩ := H
               replace H : (paybooklaw05_PackCuts.l1 k3 l0 (wrap64 (x15_3 + 1)) x323000_2 x323001_2 t350 t353) = some true := H
               have A45 := Aside0.mk A450
               clear A450
               have H' := Aside0.mk H
               clear H
               go_wp2_with (first | ((with_reducible refine gate_callee (f := 17) rfl ?_); refine goesL_ (some 84) rfl rfl Try.func17 (by kernel_rfl) rfl #[.pointer (some ⟨gb348, 0, none⟩), .int .i64 (-9223372036854775808), .int .i64 9223372036854775807] rfl (by (try simp only [List.map_toArray, List.map_cons, List.map_nil]); first | done | rfl | (simp only [List.length_drop, List.length_take]; rfl)) ?_; (with_reducible refine (pack_Box_Get.calls k3 gb348 (fun k_ => some k_ = (u349000 : Value).ownBlock) u349000 x349000_3 x349001_3 (-9223372036854775808) 9223372036854775807 t349 t350 t353 w _ ?side1 ?side2 ?side3 ?side4 A45.out).mono ?_); (case side1 => repeat (first | (with_reducible first | exact HB.out | apply below_alloc | apply pw_below_drewN | apply below_drew1 | refine below_set ?_ GE322.out | refine below_set ?_ GE348.out) | exact HB.out)); (case side2 => exact (by (with_reducible repeat (first | refine blk_drewN ?_ _ | refine blk_drew ?_ | refine blk_alloc ?_ _)); exact BK348.out)); (case side3 => exact GE348.out); (case side4 => exact Kd.Q_tight rfl HO_349000.out); rintro e w46 ⟨v351, rfl, ho0, hi, hb, hkp⟩; refine ⟨_, rfl, ?_⟩; have n0_ := Aside0.mk (Kd.Q_mono (ok' := fun k_ => some k_ ≠ (v351 : Value).ownBlock) (Kd.Q_keptB ((Kd.Q_types HO_323000.out BK348.out (by decide))) hkp (fun k_ hk_ hs_ => Or.elim hs_ (fun hs_ => (hk_.1) hs_) (fun e_ => (hk_.2) e_))) (fun k_ hk_ => fun e_ => Or.elim (ho0.1 k_ e_.symm) (fun hs_ => hk_.2.1 (.inl hs_)) (fun hn_ => Nat.not_le.2 hk_.2.2 hn_))); have n1_ := Aside0.mk (blk_kept (by (with_reducible repeat (first | refine blk_drewN ?_ _ | refine blk_drew ?_ | refine blk_alloc ?_ _)); exact BK322.out) hkp (fun hs_ => Or.elim hs_ (fun hs_ => (fun e_ => (Kd.Q_ne HO_349000.out BK322.out (by decide)) e_) hs_) (fun e_ => NB322_348.out e_))); have n2_ := Aside0.mk (hi); have n3_ := Aside0.mk (Kd.Q_mono (ok' := fun k_ => some k_ ≠ (u323000 : Value).ownBlock) ho0 (fun k_ hk_ => Or.elim hk_ (fun hs_ => fun e_ => ((((Kd.Q_types HO_323000.out BK348.out (by decide))).1 k_ e_.symm).1) hs_) (fun hn_ => (Kd.fresh' (Kd.Q_lt (by (with_reducible repeat (first | apply Kd.Q_alloc | apply Kd.Q_drewN | apply Kd.Q_drew)); exact HO_323000.out)) k_ hn_)))); have n4_ := Aside0.mk (hb); clear HO_323000; clear BK322; clear BK348; clear HB; clear HO_349000; have HO_323000 := n0_; have BK322 := n1_; have BK348 := n2_; have HO352 := n3_; have HB := n4_; clear n0_ n1_ n2_ n3_ n4_; (try clear hb); (try clear hkp); (try clear hi); (try clear ho0)))
               go_roundg k3
               case measure => have := HJ3.out; have := HK2.out; have := HK3.out; omega
               case rel => exact ⟨(wrap64 (x15_3 + 1)), (t350), (t353), (v351), (by first | rfl | (simp; done) | (simp [*]; done)), H', ⟨by have := HJ3.out; have := HK2.out; have := HK3.out; omega⟩, ⟨by (with_reducible repeat (first | apply Kd.Q_alloc | apply Kd.Q_drewN | apply Kd.Q_drew)); exact HO_323000.out⟩, ⟨by (with_reducible repeat (first | apply Kd.Q_alloc | apply Kd.Q_drewN | apply Kd.Q_drew)); exact HO352.out⟩, ⟨by (with_reducible repeat (first | refine blk_drewN ?_ _ | refine blk_drew ?_ | refine blk_alloc ?_ _)); exact BK322.out⟩, ⟨by (with_reducible repeat (first | refine blk_drewN ?_ _ | refine blk_drew ?_ | refine blk_alloc ?_ _)); exact BK348.out⟩, ⟨by repeat (first | (with_reducible first | exact HB.out | apply below_alloc | apply pw_below_drewN | apply below_drew1 | refine below_set ?_ GE322.out | refine below_set ?_ GE348.out) | exact HB.out)⟩⟩
              ·rw [if_neg c44] at H
               have c44b0 : decide (x15_3 < (l0.length : Int)) = false := decide_eq_false c44
               clear c44
               replace H := Option.bind_eq_some_iff.mp H
               obtain ⟨⟨t354, t355, t358⟩, A470, H⟩ := H
               replace H : (if t354 = 0 then ((pack_Box_End.f x349000_3 x349001_3).bind fun bt359 => (some (bt359.1 == 4))) else (some false)) = some true := H
               have A47 := Aside0.mk A470
               clear A470
               by_cases c48 : t354 = 0
               ·rw [if_pos c48] at H
                have c48b0 : (t354 == 0) = true := beq_iff_eq.mpr c48
                have c48b1 : (t354 != 0) = false := bne_eq_false_iff_eq.mpr c48
                clear c48
                replace H := Option.bind_eq_some_iff.mp H
                obtain ⟨⟨t359, t360, t363⟩, A490, H⟩ := H
                replace H : (some (t359 == 4)) = some true := H
                have A49 := Aside0.mk A490
                clear A490
                have HT_ := Option.some.inj H
                clear H
                (try (have HT_z_ := HT_; simp only [beq_true, beq_false, true_beq, false_beq, Bool.not_eq_true', Bool.not_eq_false', Bool.not_true, Bool.not_false] at HT_z_))
                go_wp2_with (first | ((with_reducible refine gate_callee (f := 19) rfl ?_); refine goesL_ (some 86) rfl rfl Try.func19 (by kernel_rfl) rfl #[.pointer (some ⟨gb322, 0, none⟩)] rfl (by (try simp only [List.map_toArray, List.map_cons, List.map_nil]); first | done | rfl | (simp only [List.length_drop, List.length_take]; rfl)) ?_; (with_reducible refine (pack_Box_End.calls gb322 (fun k_ => some k_ = (u323000 : Value).ownBlock) u323000 x323000_2 x323001_2 t354 t355 t358 w _ ?side1 ?side2 ?side3 ?side4 A47.out).mono ?_); (case side1 => repeat (first | (with_reducible first | exact HB.out | apply below_alloc | apply pw_below_drewN | apply below_drew1 | refine below_set ?_ GE322.out | refine below_set ?_ GE348.out) | exact HB.out)); (case side2 => exact (by (with_reducible repeat (first | refine blk_drewN ?_ _ | refine blk_drew ?_ | refine blk_alloc ?_ _)); exact BK322.out)); (case side3 => exact GE322.out); (case side4 => exact Kd.Q_tight rfl HO_323000.out); rintro e w50 ⟨v356, rfl, ho0, hi, hb, hkp⟩; refine ⟨_, rfl, ?_⟩; have n0_ := Aside0.mk (Kd.Q_mono (ok' := fun k_ => some k_ ≠ (v356 : Value).ownBlock) (Kd.Q_keptB ((Kd.Q_types HO_349000.out BK322.out (by decide))) hkp (fun k_ hk_ hs_ => Or.elim hs_ (fun hs_ => (hk_.1) hs_) (fun e_ => (hk_.2) e_))) (fun k_ hk_ => fun e_ => Or.elim (ho0.1 k_ e_.symm) (fun hs_ => hk_.2.1 (.inl hs_)) (fun hn_ => Nat.not_le.2 hk_.2.2 hn_))); have n1_ := Aside0.mk (hi); have n2_ := Aside0.mk (blk_kept (by (with_reducible repeat (first | refine blk_drewN ?_ _ | refine blk_drew ?_ | refine blk_alloc ?_ _)); exact BK348.out) hkp (fun hs_ => Or.elim hs_ (fun hs_ => (fun e_ => (Kd.Q_ne HO_323000.out BK348.out (by decide)) e_) hs_) (fun e_ => NB348_322.out e_))); have n3_ := Aside0.mk (Kd.Q_mono (ok' := fun k_ => some k_ ≠ (u349000 : Value).ownBlock) ho0 (fun k_ hk_ => Or.elim hk_ (fun hs_ => fun e_ => ((((Kd.Q_types HO_349000.out BK322.out (by decide))).1 k_ e_.symm).1) hs_) (fun hn_ => (Kd.fresh' (Kd.Q_lt (by (with_reducible repeat (first | apply Kd.Q_alloc | apply Kd.Q_drewN | apply Kd.Q_drew)); exact HO_349000.out)) k_ hn_)))); have n4_ := Aside0.mk (hb); clear HO_349000; clear BK322; clear BK348; clear HB; clear HO_323000; have HO_349000 := n0_; have BK322 := n1_; have BK348 := n2_; have HO357 := n3_; have HB := n4_; clear n0_ n1_ n2_ n3_ n4_; (try clear hb); (try clear hkp); (try clear hi); (try clear ho0)) | (go_at_call 19; (with_reducible refine (pack_Box_End.calls gb348 (fun k_ => some k_ = (u349000 : Value).ownBlock) u349000 x349000_3 x349001_3 t359 t360 t363 w _ ?side1 ?side2 ?side3 ?side4 A49.out).mono ?_); (case side1 => repeat (first | (with_reducible first | exact HB.out | apply below_alloc | apply pw_below_drewN | apply below_drew1 | refine below_set ?_ GE322.out | refine below_set ?_ GE348.out) | exact HB.out)); (case side2 => exact (by (with_reducible repeat (first | refine blk_drewN ?_ _ | refine blk_drew ?_ | refine blk_alloc ?_ _)); exact BK348.out)); (case side3 => exact GE348.out); (case side4 => exact Kd.Q_tight rfl HO_349000.out); rintro e w51 ⟨v361, rfl, ho0, hi, hb, hkp⟩; have n0_ := Aside0.mk (blk_kept (by (with_reducible repeat (first | refine blk_drewN ?_ _ | refine blk_drew ?_ | refine blk_alloc ?_ _)); exact BK322.out) hkp (fun hs_ => Or.elim hs_ (fun hs_ => (fun e_ => (Kd.Q_ne HO_349000.out BK322.out (by decide)) e_) hs_) (fun e_ => NB322_348.out e_))); have n1_ := Aside0.mk (hi); have n2_ := Aside0.mk (Kd.Q_mono (ok' := fun k_ => some k_ ≠ (v361 : Value).ownBlock) (Kd.Q_keptB ((Kd.Q_types HO357.out BK348.out (by decide))) hkp (fun k_ hk_ hs_ => Or.elim hs_ (fun hs_ => (hk_.1) hs_) (fun e_ => (hk_.2) e_))) (fun k_ hk_ => fun e_ => Or.elim (ho0.1 k_ e_.symm) (fun hs_ => hk_.2.1 (.inl hs_)) (fun hn_ => Nat.not_le.2 hk_.2.2 hn_))); have n3_ := Aside0.mk (Kd.Q_mono (ok' := fun k_ => some k_ ≠ (v356 : Value).ownBlock) ho0 (fun k_ hk_ => Or.elim hk_ (fun hs_ => fun e_ => ((((Kd.Q_types HO357.out BK348.out (by decide))).1 k_ e_.symm).1) hs_) (fun hn_ => (Kd.fresh' (Kd.Q_lt (by (with_reducible repeat (first | apply Kd.Q_alloc | apply Kd.Q_drewN | apply Kd.Q_drew)); exact HO357.out)) k_ hn_)))); have n4_ := Aside0.mk (hb); clear BK322; clear BK348; clear HO357; clear HB; clear HO_349000; have BK322 := n0_; have BK348 := n1_; have HO357 := n2_; have HO362 := n3_; have HB := n4_; clear n0_ n1_ n2_ n3_ n4_; (try clear hb); (try clear hkp); (try clear hi); (try clear ho0)))
                go_ret
                exact ⟨by first | rfl | (simp [errW_none, errW_some] <;> rfl) | (simp only [← hji14]; first | rfl | (simp [errW_none, errW_some] <;> rfl)) | (simp [*, errW_none, errW_some] <;> rfl), by repeat (first | (with_reducible first | exact HB.out | apply below_alloc | apply pw_below_drewN | apply below_drew1 | refine below_set ?_ GE322.out | refine below_set ?_ GE348.out) | exact HB.out)⟩
               ·rw [if_neg c48] at H
                have c48b0 : (t354 == 0) = false := beq_eq_false_iff_ne.mpr c48
                have c48b1 : (t354 != 0) = true := bne_iff_ne.mpr c48
                exact absurd H (by simp)
           ·rw [if_neg c38] at H
            exact absurd H (by simp)
          ·rw [if_neg c37] at H
           exact absurd H (by simp)
      ·rw [if_neg c16] at H
       exact absurd H (by simp)
     ·rw [if_neg c15] at H
      exact absurd H (by simp)

/-- THE ONE PURE STATEMENT of paybooklaw05_PackCuts: yours. -/
def paybooklaw05_PackCuts.Pure : Prop := ∀ (l0 : List Int) (a1 : Int) (a2 : Int), l0.length ≤ maxLen → l0.length * 8 ≤ 140737488351232 → (∀ x ∈ l0, (Lit.int .i64 x).wf = true) → (Lit.int .u16 a1).wf = true → (Lit.int .u8 a2).wf = true → ∃ k, paybooklaw05_PackCuts.f k l0 a1 a2 = some true
theorem paybooklaw05_PackCuts.walk (P : paybooklaw05_PackCuts.Pure) (a0 : Option Addr) (len0 cap0 : Nat) (z0 : List Int) (a1 : Int) (a2 : Int) (w : World) (w0 : (a0 = none ∧ len0 = 0 ∧ cap0 = 0 ∧ z0 = []) ∨ ∃ x, a0 = some x ∧ len0 ≤ cap0 ∧ cap0 ≤ maxLen ∧ z0.length = cap0 ∧ (∀ i, i < z0.length → w.cell? (x.add i) = some (.int .i64 (z0.getD i 0))) ∧ ∀ n ∈ z0, (Lit.int .i64 n).wf = true) (y0 : len0 * 8 ≤ 140737488351232) (w1 : (Lit.int .u16 a1).wf = true) (w2 : (Lit.int .u8 a2).wf = true) :
  Calls Try.prog 5 #[.slice a0 len0 cap0, .int .u16 a1, .int .u8 a2] w fun e w' => e = .returned (.bool true) ∧ Below w.heap.size w w' := by
 obtain ⟨l0, rfl, hr0, hm0, hw0, hc0⟩ := ReadsInt.ofRowC w0
 obtain ⟨k, h⟩ := P l0 a1 a2 hm0 y0 hw0 w1 w2
 refine (paybooklaw05_PackCuts.calls k _ _ l0 a1 a2 w (Kd.C_of_reads (d := (0 : Int)) (h1 := fun _ => rfl) hr0) hc0 h).mono ?_
 rintro e w' ⟨rfl, hd⟩
 exact ⟨rfl, hd⟩

end Go.Proofs.Ytinmndkhipfccaa.PA
