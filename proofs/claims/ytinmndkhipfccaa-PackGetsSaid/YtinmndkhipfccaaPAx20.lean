-- printed by this workplace: wip/patchprint.py over the kit's print
import Derived.Test.YtinmndkhipfccaaPAx0
import Derived.Test.YtinmndkhipfccaaPAx4
import Derived.Test.YtinmndkhipfccaaPAx9
import Derived.Test.YtinmndkhipfccaaPAx11
import Derived.Test.YtinmndkhipfccaaPAx12
import Derived.Test.YtinmndkhipfccaaPAx13
import Derived.Test.YtinmndkhipfccaaPAx14
import Derived.Test.YtinmndkhipfccaaPAx17
import Derived.Test.YtinmndkhipfccaaPAx18
import Derived.Test.YtinmndkhipfccaaPAx19
namespace Go.Proofs.Ytinmndkhipfccaa.PA
open Go.RowKit Go.Proofs.YtinmndkhipfccaaW.PrintWords Go.Proofs.YtinmndkhipfccaaW.PrintLast Go.Proofs.YtinmndkhipfccaaW.PrintMore
attribute [local go_sem] max2_int min2_int max_two min_two max_three min_three max_four min_four   -- for this text's walks alone
set_option linter.unusedVariables false
set_option linter.unusedSimpArgs false

/-! ### paybooklaw05_PackGets: function 7 -/
mutual
def paybooklaw05_PackGets.j0 : Nat → List Int → Int → Int → Bool → Option (Bool)
 | 0, _, _, _, _ => none
 | k + 1, x0, x1, x2, x18 => if x18 = true then ((paybooklaw05_awake.f k).bind fun t396 => (some t396)) else ((pack_Of.f x0).bind fun bt397 => ((pack_Box_Get.f k bt397.1 bt397.2 x1 x2).bind fun bt402 => ((paybookref05_Unpack.f k x0).bind fun bt407 => (if bt407.2.2 = 0 then (if bt407.1 < x1 then (paybooklaw05_PackGets.j1 k x0 x1 x2 bt402.1 bt407.1 bt407.2.1 bt407.2.2 true bt402.2.1 bt402.2.2) else (paybooklaw05_PackGets.j1 k x0 x1 x2 bt402.1 bt407.1 bt407.2.1 bt407.2.2 (decide (bt407.1 > x2)) bt402.2.1 bt402.2.2)) else (paybooklaw05_PackGets.j1 k x0 x1 x2 bt402.1 bt407.1 bt407.2.1 bt407.2.2 false bt402.2.1 bt402.2.2)))))
def paybooklaw05_PackGets.j1 : Nat → List Int → Int → Int → Int → Int → Int → Int → Bool → List Int → Int → Option (Bool)
 | 0, _, _, _, _, _, _, _, _, _, _ => none
 | k + 1, x0, x1, x2, x8, x9, x10, x11, x43, x402000, x402001 => if x43 = true then (paybooklaw05_PackGets.j2 k x0 x1 x2 x8 x9 x10 1 x402000 x402001) else (paybooklaw05_PackGets.j2 k x0 x1 x2 x8 x9 x10 x11 x402000 x402001)
def paybooklaw05_PackGets.j2 : Nat → List Int → Int → Int → Int → Int → Int → Int → List Int → Int → Option (Bool)
 | 0, _, _, _, _, _, _, _, _, _ => none
 | k + 1, x0, x1, x2, x8, x9, x10, x11, x402000, x402001 => if x11 = 0 then (if x8 = x9 then ((pack_Box_Fault.f x402000 x402001).bind fun bt410 => (if bt410.1 = 0 then ((pack_Box_Left.f bt410.2.1 bt410.2.2).bind fun bt415 => (some (bt415.1 == (wrap64 ((x0.length : Int) - x10))))) else (some false))) else (some false)) else (if x8 = 0 then ((pack_Box_Fault.f x402000 x402001).bind fun bt420 => (if bt420.1 = x11 then ((pack_Box_Get.f k bt420.2.1 bt420.2.2 x1 x2).bind fun bt425 => (if bt425.1 = 0 then ((pack_Box_End.f bt425.2.1 bt425.2.2).bind fun bt430 => (if bt430.1 = x11 then ((pack_Box_GetFlag.f k bt430.2.1 bt430.2.2).bind fun bt435 => (if bt435.1 = true then (some false) else ((pack_Box_GetBytes.f k bt435.2.1 bt435.2.2 9).bind fun bt440 => (some ((bt440.1.length : Int) == 0))))) else (some false))) else (some false))) else (some false))) else (some false))
end
def paybooklaw05_PackGets.f (k : Nat) (l0 : List Int) (a1 : Int) (a2 : Int) : Option (Bool) := (paybooklaw05_awake.f k).bind fun t395 => (if t395 = true then (paybooklaw05_PackGets.j0 k l0 a1 a2 (decide ((l0.length : Int) > 50))) else (paybooklaw05_PackGets.j0 k l0 a1 a2 true))
theorem paybooklaw05_PackGets.mono_l : ∀ k, (∀ y0 y1 y2 y3, LeO (paybooklaw05_PackGets.j0 k y0 y1 y2 y3) (paybooklaw05_PackGets.j0 (k + 1) y0 y1 y2 y3)) ∧ (∀ y0 y1 y2 y3 y4 y5 y6 y7 y8 y9, LeO (paybooklaw05_PackGets.j1 k y0 y1 y2 y3 y4 y5 y6 y7 y8 y9) (paybooklaw05_PackGets.j1 (k + 1) y0 y1 y2 y3 y4 y5 y6 y7 y8 y9)) ∧ (∀ y0 y1 y2 y3 y4 y5 y6 y7 y8, LeO (paybooklaw05_PackGets.j2 k y0 y1 y2 y3 y4 y5 y6 y7 y8) (paybooklaw05_PackGets.j2 (k + 1) y0 y1 y2 y3 y4 y5 y6 y7 y8))
 | 0 => ⟨fun _ _ _ _ r h => by simp [paybooklaw05_PackGets.j0] at h, fun _ _ _ _ _ _ _ _ _ _ r h => by simp [paybooklaw05_PackGets.j1] at h, fun _ _ _ _ _ _ _ _ _ r h => by simp [paybooklaw05_PackGets.j2] at h⟩
 | k + 1 => by
  obtain ⟨ih0, ih1, ih2⟩ := paybooklaw05_PackGets.mono_l k
  refine ⟨?_, ?_, ?_⟩
  ·intro y0 y1 y2 y3
   unfold paybooklaw05_PackGets.j0
   repeat' first
   | (with_reducible exact ih0 _ _ _ _)
   | (with_reducible exact ih1 _ _ _ _ _ _ _ _ _ _)
   | (with_reducible exact ih2 _ _ _ _ _ _ _ _ _)
   | (with_reducible exact pack_Box_Get.mono _ _ _ _ _)
   | (with_reducible exact pack_Box_GetBytes.mono _ _ _ _)
   | (with_reducible exact pack_Box_GetFlag.mono _ _ _)
   | (with_reducible exact paybooklaw05_awake.mono _)
   | (with_reducible exact paybookref05_Unpack.mono _ _)
   | (with_reducible exact LeO.refl _)
   | (with_reducible exact LeO.none _)
   | (with_reducible refine LeO.ite ?_ ?_)
   | (with_reducible refine LeO.bind ?_ (fun _ => ?_))
   | exact ih0 _ _ _ _
   | exact ih1 _ _ _ _ _ _ _ _ _ _
   | exact ih2 _ _ _ _ _ _ _ _ _
   | exact pack_Box_Get.mono _ _ _ _ _
   | exact pack_Box_GetBytes.mono _ _ _ _
   | exact pack_Box_GetFlag.mono _ _ _
   | exact paybooklaw05_awake.mono _
   | exact paybookref05_Unpack.mono _ _
   | exact LeO.none _
   | refine LeO.ite ?_ ?_
   | refine LeO.bind ?_ (fun _ => ?_)
  ·intro y0 y1 y2 y3 y4 y5 y6 y7 y8 y9
   unfold paybooklaw05_PackGets.j1
   repeat' first
   | (with_reducible exact ih0 _ _ _ _)
   | (with_reducible exact ih1 _ _ _ _ _ _ _ _ _ _)
   | (with_reducible exact ih2 _ _ _ _ _ _ _ _ _)
   | (with_reducible exact pack_Box_Get.mono _ _ _ _ _)
   | (with_reducible exact pack_Box_GetBytes.mono _ _ _ _)
   | (with_reducible exact pack_Box_GetFlag.mono _ _ _)
   | (with_reducible exact paybooklaw05_awake.mono _)
   | (with_reducible exact paybookref05_Unpack.mono _ _)
   | (with_reducible exact LeO.refl _)
   | (with_reducible exact LeO.none _)
   | (with_reducible refine LeO.ite ?_ ?_)
   | (with_reducible refine LeO.bind ?_ (fun _ => ?_))
   | exact ih0 _ _ _ _
   | exact ih1 _ _ _ _ _ _ _ _ _ _
   | exact ih2 _ _ _ _ _ _ _ _ _
   | exact pack_Box_Get.mono _ _ _ _ _
   | exact pack_Box_GetBytes.mono _ _ _ _
   | exact pack_Box_GetFlag.mono _ _ _
   | exact paybooklaw05_awake.mono _
   | exact paybookref05_Unpack.mono _ _
   | exact LeO.none _
   | refine LeO.ite ?_ ?_
   | refine LeO.bind ?_ (fun _ => ?_)
  ·intro y0 y1 y2 y3 y4 y5 y6 y7 y8
   unfold paybooklaw05_PackGets.j2
   repeat' first
   | (with_reducible exact ih0 _ _ _ _)
   | (with_reducible exact ih1 _ _ _ _ _ _ _ _ _ _)
   | (with_reducible exact ih2 _ _ _ _ _ _ _ _ _)
   | (with_reducible exact pack_Box_Get.mono _ _ _ _ _)
   | (with_reducible exact pack_Box_GetBytes.mono _ _ _ _)
   | (with_reducible exact pack_Box_GetFlag.mono _ _ _)
   | (with_reducible exact paybooklaw05_awake.mono _)
   | (with_reducible exact paybookref05_Unpack.mono _ _)
   | (with_reducible exact LeO.refl _)
   | (with_reducible exact LeO.none _)
   | (with_reducible refine LeO.ite ?_ ?_)
   | (with_reducible refine LeO.bind ?_ (fun _ => ?_))
   | exact ih0 _ _ _ _
   | exact ih1 _ _ _ _ _ _ _ _ _ _
   | exact ih2 _ _ _ _ _ _ _ _ _
   | exact pack_Box_Get.mono _ _ _ _ _
   | exact pack_Box_GetBytes.mono _ _ _ _
   | exact pack_Box_GetFlag.mono _ _ _
   | exact paybooklaw05_awake.mono _
   | exact paybookref05_Unpack.mono _ _
   | exact LeO.none _
   | refine LeO.ite ?_ ?_
   | refine LeO.bind ?_ (fun _ => ?_)
theorem paybooklaw05_PackGets.mono : ∀ a0 a1 a2 k, LeO (paybooklaw05_PackGets.f k a0 a1 a2) (paybooklaw05_PackGets.f (k + 1) a0 a1 a2) := by
 intro a0 a1 a2 k
 obtain ⟨ih0, ih1, ih2⟩ := paybooklaw05_PackGets.mono_l k
 unfold paybooklaw05_PackGets.f
 repeat' first
   | (with_reducible exact ih0 _ _ _ _)
   | (with_reducible exact ih1 _ _ _ _ _ _ _ _ _ _)
   | (with_reducible exact ih2 _ _ _ _ _ _ _ _ _)
   | (with_reducible exact pack_Box_Get.mono _ _ _ _ _)
   | (with_reducible exact pack_Box_GetBytes.mono _ _ _ _)
   | (with_reducible exact pack_Box_GetFlag.mono _ _ _)
   | (with_reducible exact paybooklaw05_awake.mono _)
   | (with_reducible exact paybookref05_Unpack.mono _ _)
   | (with_reducible exact LeO.refl _)
   | (with_reducible exact LeO.none _)
   | (with_reducible refine LeO.ite ?_ ?_)
   | (with_reducible refine LeO.bind ?_ (fun _ => ?_))
   | exact ih0 _ _ _ _
   | exact ih1 _ _ _ _ _ _ _ _ _ _
   | exact ih2 _ _ _ _ _ _ _ _ _
   | exact pack_Box_Get.mono _ _ _ _ _
   | exact pack_Box_GetBytes.mono _ _ _ _
   | exact pack_Box_GetFlag.mono _ _ _
   | exact paybooklaw05_awake.mono _
   | exact paybookref05_Unpack.mono _ _
   | exact LeO.none _
   | refine LeO.ite ?_ ?_
   | refine LeO.bind ?_ (fun _ => ?_)
set_option maxHeartbeats 40000000 in
set_option maxRecDepth 100000 in
theorem paybooklaw05_PackGets.calls (k : Nat) (A0 : Option Addr) (c0 : Nat) (l0 : List Int) (a1 : Int) (a2 : Int) (w : World) (hr0 : Kd.C (Kd.int .u8) w A0 l0.length l0) (hc0 : l0.length ≤ c0) (h : paybooklaw05_PackGets.f k l0 a1 a2 = some true) :
  Calls Try.prog 7 #[.slice A0 l0.length c0, .int .i64 a1, .int .i64 a2] w fun e w' => e = .returned (.bool true) ∧ Below w.heap.size w w' := by
 have HR0 := Aside0.mk hr0
 have HC0 := Aside0.mk hc0
 clear hr0 hc0
 have HB := Aside0.mk (Below.refl w.heap.size w)
 have H : ((paybooklaw05_awake.f k).bind fun t395 => (if t395 = true then (paybooklaw05_PackGets.j0 k l0 a1 a2 (decide ((l0.length : Int) > 50))) else (paybooklaw05_PackGets.j0 k l0 a1 a2 true))) = some true := h
 clear h
 have HC4 := Aside0.mk H
 clear H
 go_enter Try.func7, Try.ntmps7
 go_upto_region 1 with (fail)
 go_cut [18] (fun v18 wc => ∃ (kq : Nat) (x18_3 : Bool), v18 = .bool x18_3 ∧ Aside0 (paybooklaw05_PackGets.j0 kq l0 a1 a2 x18_3 = some true) ∧ Aside0 (kq ≤ k) ∧ Aside0 (Below w.heap.size w wc))
 case first =>
  have H := HC4.out
  clear HC4
  replace H := Option.bind_eq_some_iff.mp H
  obtain ⟨t395, A50, H⟩ := H
  replace H : (if t395 = true then (paybooklaw05_PackGets.j0 k l0 a1 a2 (decide ((l0.length : Int) > 50))) else (paybooklaw05_PackGets.j0 k l0 a1 a2 true)) = some true := H
  have A5 := Aside0.mk A50
  clear A50
  by_cases c6 : t395 = true
  ·subst c6
   have H1 : (paybooklaw05_PackGets.j0 k l0 a1 a2 (decide ((l0.length : Int) > 50))) = some true := by rw [if_pos rfl] at H; try exact H
   clear H
   have H := H1
   clear H1
   have H' := Aside0.mk H
   clear H
   go_wp2_with (first | (go_at_call 10; (with_reducible refine (paybooklaw05_awake.calls k  true _ A5.out).mono ?_); rintro e w7 ⟨rfl, hb⟩; have n0_ := Aside0.mk (below_step (by repeat (first | (with_reducible first | exact HB.out | apply below_alloc | apply pw_below_drewN | apply below_drew1) | exact HB.out)) hb); clear HB; have HB := n0_; clear n0_; (try clear hb); (try clear hb2); (try clear hk); (try clear hi)) | ((with_reducible refine gate_callee (f := 10) rfl ?_); refine goesL_ (some 12) rfl rfl Try.func10 (by kernel_rfl) rfl #[] rfl (by (try simp only [List.map_toArray, List.map_cons, List.map_nil]); first | done | rfl | (simp only [List.length_drop, List.length_take]; rfl)) ?_; (with_reducible refine (paybooklaw05_awake.calls k  true _ A5.out).mono ?_); rintro e w7 ⟨rfl, hb⟩; refine ⟨_, rfl, ?_⟩; have n0_ := Aside0.mk (below_step (by repeat (first | (with_reducible first | exact HB.out | apply below_alloc | apply pw_below_drewN | apply below_drew1) | exact HB.out)) hb); clear HB; have HB := n0_; clear n0_; (try clear hb); (try clear hb2); (try clear hk); (try clear hi)))
   go_meet
   case rel => exact ⟨_, (decide ((l0.length : Int) > 50)), (by first | rfl | (simp; done) | (simp [*]; done)), H', ⟨by first | omega | exact Nat.le_refl _⟩, ⟨by repeat (first | (with_reducible first | exact HB.out | apply below_alloc | apply pw_below_drewN | apply below_drew1) | exact HB.out)⟩⟩
  ·replace c6 := Bool.eq_false_iff.mpr c6
   subst c6
   have H1 : (paybooklaw05_PackGets.j0 k l0 a1 a2 true) = some true := by rw [if_neg (show ¬ (false = true) by decide)] at H; try exact H
   clear H
   have H := H1
   clear H1
   have H' := Aside0.mk H
   clear H
   go_wp2_with (first | (go_at_call 10; (with_reducible refine (paybooklaw05_awake.calls k  false _ A5.out).mono ?_); rintro e w8 ⟨rfl, hb⟩; have n0_ := Aside0.mk (below_step (by repeat (first | (with_reducible first | exact HB.out | apply below_alloc | apply pw_below_drewN | apply below_drew1) | exact HB.out)) hb); clear HB; have HB := n0_; clear n0_; (try clear hb); (try clear hb2); (try clear hk); (try clear hi)) | ((with_reducible refine gate_callee (f := 10) rfl ?_); refine goesL_ (some 12) rfl rfl Try.func10 (by kernel_rfl) rfl #[] rfl (by (try simp only [List.map_toArray, List.map_cons, List.map_nil]); first | done | rfl | (simp only [List.length_drop, List.length_take]; rfl)) ?_; (with_reducible refine (paybooklaw05_awake.calls k  false _ A5.out).mono ?_); rintro e w8 ⟨rfl, hb⟩; refine ⟨_, rfl, ?_⟩; have n0_ := Aside0.mk (below_step (by repeat (first | (with_reducible first | exact HB.out | apply below_alloc | apply pw_below_drewN | apply below_drew1) | exact HB.out)) hb); clear HB; have HB := n0_; clear n0_; (try clear hb); (try clear hb2); (try clear hk); (try clear hi)))
   go_meet
   case rel => exact ⟨_, (true), (by first | rfl | (simp; done) | (simp [*]; done)), H', ⟨by first | omega | exact Nat.le_refl _⟩, ⟨by repeat (first | (with_reducible first | exact HB.out | apply below_alloc | apply pw_below_drewN | apply below_drew1) | exact HB.out)⟩⟩
 case rest =>
  clear HC4
  try clear c1
  try clear p2
  try clear c6
  try clear c7
  obtain ⟨kq, x18_3, rfl, HA, HJ3, HB⟩ := hcut
  cases kq with
  | zero => exact absurd HA.out (by simp [paybooklaw05_PackGets.j0])
  | succ kj3 =>
   have H := HA.out
   clear HA
   simp only [paybooklaw05_PackGets.j0] at H
   by_cases c9 : x18_3 = true
   ·subst c9
    have H1 : ((paybooklaw05_awake.f kj3).bind fun t396 => (some t396)) = some true := by rw [if_pos rfl] at H; try exact H
    clear H
    have H := H1
    clear H1
    replace H := Option.bind_eq_some_iff.mp H
    obtain ⟨t396, A100, H⟩ := H
    replace H : (some t396) = some true := H
    have A10 := Aside0.mk A100
    clear A100
    have HT_ := Option.some.inj H
    clear H
    (try (have HT_z_ := HT_; simp only [beq_true, beq_false, true_beq, false_beq, Bool.not_eq_true', Bool.not_eq_false', Bool.not_true, Bool.not_false] at HT_z_))
    go_wp2_with (first | (go_at_call 10; (with_reducible refine (paybooklaw05_awake.calls kj3  t396 _ A10.out).mono ?_); rintro e w11 ⟨rfl, hb⟩; have n0_ := Aside0.mk (below_step (by repeat (first | (with_reducible first | exact HB.out | apply below_alloc | apply pw_below_drewN | apply below_drew1) | exact HB.out)) hb); clear HB; have HB := n0_; clear n0_; (try clear hb); (try clear hb2); (try clear hk); (try clear hi)) | ((with_reducible refine gate_callee (f := 10) rfl ?_); refine goesL_ (some 19) rfl rfl Try.func10 (by kernel_rfl) rfl #[] rfl (by (try simp only [List.map_toArray, List.map_cons, List.map_nil]); first | done | rfl | (simp only [List.length_drop, List.length_take]; rfl)) ?_; (with_reducible refine (paybooklaw05_awake.calls kj3  t396 _ A10.out).mono ?_); rintro e w11 ⟨rfl, hb⟩; refine ⟨_, rfl, ?_⟩; have n0_ := Aside0.mk (below_step (by repeat (first | (with_reducible first | exact HB.out | apply below_alloc | apply pw_below_drewN | apply below_drew1) | exact HB.out)) hb); clear HB; have HB := n0_; clear n0_; (try clear hb); (try clear hb2); (try clear hk); (try clear hi)))
    go_ret
    exact ⟨by first | rfl | (simp [errW_none, errW_some] <;> rfl) | (simp [*, errW_none, errW_some] <;> rfl), by repeat (first | (with_reducible first | exact HB.out | apply below_alloc | apply pw_below_drewN | apply below_drew1) | exact HB.out)⟩
   ·replace c9 := Bool.eq_false_iff.mpr c9
    subst c9
    have H1 : ((pack_Of.f l0).bind fun bt397 => ((pack_Box_Get.f kj3 bt397.1 bt397.2 a1 a2).bind fun bt402 => ((paybookref05_Unpack.f kj3 l0).bind fun bt407 => (if bt407.2.2 = 0 then (if bt407.1 < a1 then (paybooklaw05_PackGets.j1 kj3 l0 a1 a2 bt402.1 bt407.1 bt407.2.1 bt407.2.2 true bt402.2.1 bt402.2.2) else (paybooklaw05_PackGets.j1 kj3 l0 a1 a2 bt402.1 bt407.1 bt407.2.1 bt407.2.2 (decide (bt407.1 > a2)) bt402.2.1 bt402.2.2)) else (paybooklaw05_PackGets.j1 kj3 l0 a1 a2 bt402.1 bt407.1 bt407.2.1 bt407.2.2 false bt402.2.1 bt402.2.2))))) = some true := by rw [if_neg (show ¬ (false = true) by decide)] at H; try exact H
    clear H
    have H := H1
    clear H1
    replace H := Option.bind_eq_some_iff.mp H
    obtain ⟨⟨t397, t400⟩, A120, H⟩ := H
    replace H : ((pack_Box_Get.f kj3 t397 t400 a1 a2).bind fun bt402 => ((paybookref05_Unpack.f kj3 l0).bind fun bt407 => (if bt407.2.2 = 0 then (if bt407.1 < a1 then (paybooklaw05_PackGets.j1 kj3 l0 a1 a2 bt402.1 bt407.1 bt407.2.1 bt407.2.2 true bt402.2.1 bt402.2.2) else (paybooklaw05_PackGets.j1 kj3 l0 a1 a2 bt402.1 bt407.1 bt407.2.1 bt407.2.2 (decide (bt407.1 > a2)) bt402.2.1 bt402.2.2)) else (paybooklaw05_PackGets.j1 kj3 l0 a1 a2 bt402.1 bt407.1 bt407.2.1 bt407.2.2 false bt402.2.1 bt402.2.2)))) = some true := H
    have A12 := Aside0.mk A120
    clear A120
    replace H := Option.bind_eq_some_iff.mp H
    obtain ⟨⟨t402, t403, t406⟩, A130, H⟩ := H
    replace H : ((paybookref05_Unpack.f kj3 l0).bind fun bt407 => (if bt407.2.2 = 0 then (if bt407.1 < a1 then (paybooklaw05_PackGets.j1 kj3 l0 a1 a2 t402 bt407.1 bt407.2.1 bt407.2.2 true t403 t406) else (paybooklaw05_PackGets.j1 kj3 l0 a1 a2 t402 bt407.1 bt407.2.1 bt407.2.2 (decide (bt407.1 > a2)) t403 t406)) else (paybooklaw05_PackGets.j1 kj3 l0 a1 a2 t402 bt407.1 bt407.2.1 bt407.2.2 false t403 t406))) = some true := H
    have A13 := Aside0.mk A130
    clear A130
    replace H := Option.bind_eq_some_iff.mp H
    obtain ⟨⟨t407, t408, t409⟩, A140, H⟩ := H
    replace H : (if t409 = 0 then (if t407 < a1 then (paybooklaw05_PackGets.j1 kj3 l0 a1 a2 t402 t407 t408 t409 true t403 t406) else (paybooklaw05_PackGets.j1 kj3 l0 a1 a2 t402 t407 t408 t409 (decide (t407 > a2)) t403 t406)) else (paybooklaw05_PackGets.j1 kj3 l0 a1 a2 t402 t407 t408 t409 false t403 t406)) = some true := H
    have A14 := Aside0.mk A140
    clear A140
    have HC15 := Aside0.mk H
    clear H
    go_upto_region 6 with (first | ((with_reducible refine gate_callee (f := 16) rfl ?_); refine goesL_ (some 21) rfl rfl Try.func16 (by kernel_rfl) rfl #[.slice A0 l0.length c0] rfl (by (try simp only [List.map_toArray, List.map_cons, List.map_nil]); first | done | rfl | (simp only [List.length_drop, List.length_take]; rfl)) ?_; (with_reducible refine (pack_Of.calls _ _ l0 t397 t400 _ ?side1 ?side2 A12.out).mono ?_); (case side1 => repeat (first | exact (Kd.C_below HR0.out HB.out) | exact HR0.out | (with_reducible refine Kd.C_alloc ?_ _) | (with_reducible refine Kd.C_drewN ?_ _) | (with_reducible refine Kd.C_drew ?_))); (case side2 => exact HC0.out); rintro e w16 ⟨v398, gb401, rfl, ho0, hnb401, hnl401, hb⟩; refine ⟨_, rfl, ?_⟩; have n0_ := Aside0.mk (Kd.R_lower ho0 (below_size (by repeat (first | (with_reducible first | exact HB.out | apply below_alloc | apply pw_below_drewN | apply below_drew1) | exact HB.out)))); have n1_ := Aside0.mk (hnb401); have n2_ := Aside0.mk ((Nat.le_trans (below_size (by repeat (first | (with_reducible first | exact HB.out | apply below_alloc | apply pw_below_drewN | apply below_drew1) | exact HB.out))) hnl401 : w.heap.size ≤ gb401)); have n3_ := Aside0.mk ((Nat.le_trans (below_size (by repeat (first | (with_reducible first | exact HB.out | apply below_alloc | apply pw_below_drewN | apply below_drew1) | exact HB.out))) hnl401 : w.heap.size ≤ gb401)); have n4_ := Aside0.mk (below_step (by repeat (first | (with_reducible first | exact HB.out | apply below_alloc | apply pw_below_drewN | apply below_drew1) | exact HB.out)) hb); clear HB; have HO399 := n0_; have BK401 := n1_; have GW401 := n2_; have GE401 := n3_; have HB := n4_; clear n0_ n1_ n2_ n3_ n4_; (try clear hb); (try clear hb2); (try clear hk); (try clear hi); (try clear ho0)) | ((with_reducible refine gate_callee (f := 17) rfl ?_); refine goesL_ (some 25) rfl rfl Try.func17 (by kernel_rfl) rfl #[.pointer (some ⟨gb401, 0, none⟩), .int .i64 a1, .int .i64 a2] rfl (by (try simp only [List.map_toArray, List.map_cons, List.map_nil]); first | done | rfl | (simp only [List.length_drop, List.length_take]; rfl)) ?_; (with_reducible refine (pack_Box_Get.calls kj3 gb401 (fun k_ => some k_ = (v398 : Value).ownBlock) v398 t397 t400 a1 a2 t402 t403 t406 w _ ?side1 ?side2 ?side3 ?side4 A13.out).mono ?_); (case side1 => repeat (first | (with_reducible first | exact HB.out | apply below_alloc | apply pw_below_drewN | apply below_drew1 | refine below_set ?_ GE401.out) | exact HB.out)); (case side2 => exact (by (with_reducible repeat (first | refine blk_drewN ?_ _ | refine blk_drew ?_ | refine blk_alloc ?_ _)); exact BK401.out)); (case side3 => exact GE401.out); (case side4 => exact Kd.Q_tight rfl (Kd.Q_of_R HO399.out)); rintro e w17 ⟨v404, rfl, ho0, hi, hb, hkp⟩; refine ⟨_, rfl, ?_⟩; have n0_ := Aside0.mk (hi); have n1_ := Aside0.mk (Kd.Q_mono (ok' := fun k_ => True) ho0 (fun k_ hk_ => trivial)); have n2_ := Aside0.mk (hb); clear BK401; clear HB; clear HO399; have BK401 := n0_; have HO405 := n1_; have HB := n2_; clear n0_ n1_ n2_; (try clear hb); (try clear hkp); (try clear hi); (try clear ho0)) | ((with_reducible refine gate_callee (f := 21) rfl ?_); refine goesL_ (some 28) rfl rfl Try.func21 (by kernel_rfl) rfl #[.slice A0 l0.length c0] rfl (by (try simp only [List.map_toArray, List.map_cons, List.map_nil]); first | done | rfl | (simp only [List.length_drop, List.length_take]; rfl)) ?_; (with_reducible refine (paybookref05_Unpack.calls kj3 _ _ l0 t407 t408 t409 _ ?side1 ?side2 A14.out).mono ?_); (case side1 => repeat (first | exact (Kd.C_below HR0.out HB.out) | exact HR0.out | (with_reducible refine Kd.C_alloc ?_ _) | (with_reducible refine Kd.C_drewN ?_ _) | (with_reducible refine Kd.C_drew ?_))); (case side2 => exact HC0.out); rintro e w' ⟨rfl, ⟨nd, rfl⟩⟩; refine ⟨_, rfl, ?_⟩))
    (try simp only [Act.put, List.setIfInBounds_toArray, List.set_cons_zero, List.set_cons_succ])
    go_cut [43] (fun v43 wc => ∃ (kq : Nat) (x43_14 : Bool), v43 = .bool x43_14 ∧ Aside0 (paybooklaw05_PackGets.j1 kq l0 a1 a2 t402 t407 t408 t409 x43_14 t403 t406 = some true) ∧ Aside0 (kq ≤ kj3) ∧ Aside0 (Kd.Q (Kd.int .u8) 5 wc w.heap.size (fun _ => True) v404 t403) ∧ Aside0 (wc.heap[gb401]? = some (.cells #[v404, .int .i64 t406] 51 (0, 0))) ∧ Aside0 (Below w.heap.size w wc))
    case first =>
     have H := HC15.out
     clear HC15
     by_cases c18 : t409 = 0
     ·rw [if_pos c18] at H
      have c18b0 : (t409 == 0) = true := beq_iff_eq.mpr c18
      have c18b1 : (t409 != 0) = false := bne_eq_false_iff_eq.mpr c18
      clear c18
      (first | (generalize hg_ : (t409 == 0) = bg_ at *; subst c18b0; have c18b0 := hg_; clear hg_) | rw [c18b0] | (simp only [i64_w, i32_w]; rw [c18b0]) | skip)
      by_cases c19 : t407 < a1
      ·rw [if_pos c19] at H
       have c19b0 : decide (t407 < a1) = true := decide_eq_true c19
       clear c19
       have H' := Aside0.mk H
       clear H
       go_wp2
       go_meet
       case rel => exact ⟨_, (true), (by first | rfl | (simp; done) | (simp [*]; done)), H', ⟨by have := HJ3.out; first | omega | exact Nat.le_refl _⟩, ⟨by (with_reducible repeat (first | apply Kd.Q_alloc | apply Kd.Q_drewN | apply Kd.Q_drew)); exact HO405.out⟩, ⟨by (with_reducible repeat (first | refine blk_drewN ?_ _ | refine blk_drew ?_ | refine blk_alloc ?_ _)); exact BK401.out⟩, ⟨by repeat (first | (with_reducible first | exact HB.out | apply below_alloc | apply pw_below_drewN | apply below_drew1 | refine below_set ?_ GE401.out) | exact HB.out)⟩⟩
      ·rw [if_neg c19] at H
       have c19b0 : decide (t407 < a1) = false := decide_eq_false c19
       clear c19
       have H' := Aside0.mk H
       clear H
       go_wp2
       go_meet
       case rel => exact ⟨_, (decide (t407 > a2)), (by first | rfl | (simp; done) | (simp [*]; done)), H', ⟨by have := HJ3.out; first | omega | exact Nat.le_refl _⟩, ⟨by (with_reducible repeat (first | apply Kd.Q_alloc | apply Kd.Q_drewN | apply Kd.Q_drew)); exact HO405.out⟩, ⟨by (with_reducible repeat (first | refine blk_drewN ?_ _ | refine blk_drew ?_ | refine blk_alloc ?_ _)); exact BK401.out⟩, ⟨by repeat (first | (with_reducible first | exact HB.out | apply below_alloc | apply pw_below_drewN | apply below_drew1 | refine below_set ?_ GE401.out) | exact HB.out)⟩⟩
     ·rw [if_neg c18] at H
      have c18b0 : (t409 == 0) = false := beq_eq_false_iff_ne.mpr c18
      have c18b1 : (t409 != 0) = true := bne_iff_ne.mpr c18
      (first | (generalize hg_ : (t409 == 0) = bg_ at *; subst c18b0; have c18b0 := hg_; clear hg_) | rw [c18b0] | (simp only [i64_w, i32_w]; rw [c18b0]) | skip)
      have H' := Aside0.mk H
      clear H
      go_wp2
      go_meet
      case rel => exact ⟨_, (false), (by first | rfl | (simp; done) | (simp [*]; done)), H', ⟨by have := HJ3.out; first | omega | exact Nat.le_refl _⟩, ⟨by (with_reducible repeat (first | apply Kd.Q_alloc | apply Kd.Q_drewN | apply Kd.Q_drew)); exact HO405.out⟩, ⟨by (with_reducible repeat (first | refine blk_drewN ?_ _ | refine blk_drew ?_ | refine blk_alloc ?_ _)); exact BK401.out⟩, ⟨by repeat (first | (with_reducible first | exact HB.out | apply below_alloc | apply pw_below_drewN | apply below_drew1 | refine below_set ?_ GE401.out) | exact HB.out)⟩⟩
    case rest =>
     clear HC15
     try clear c1
     try clear c2
     try clear p2
     try clear c6
     try clear c7
     try clear c9
     try clear c10
     try clear c16
     try clear c17
     try clear c18
     try clear c18b0
     try clear c18b1
     try clear c19
     try clear c19b0
     try clear p2
     obtain ⟨kq, x43_14, rfl, HA, HJ14, HO_402000, BK401, HB⟩ := hcut
     cases kq with
     | zero => exact absurd HA.out (by simp [paybooklaw05_PackGets.j1])
     | succ kj14 =>
      have H := HA.out
      clear HA
      simp only [paybooklaw05_PackGets.j1] at H
      have HC20 := Aside0.mk H
      clear H
      go_upto_if 43 with (fail)
      go_cut [11] (fun v11 wc => ∃ (kq : Nat) (x11_19 : Int), v11 = .int .i64 x11_19 ∧ Aside0 (paybooklaw05_PackGets.j2 kq l0 a1 a2 t402 t407 t408 x11_19 t403 t406 = some true) ∧ Aside0 (kq ≤ kj14) ∧ Aside0 (Kd.Q (Kd.int .u8) 5 wc w.heap.size (fun _ => True) v404 t403) ∧ Aside0 (wc.heap[gb401]? = some (.cells #[v404, .int .i64 t406] 51 (0, 0))) ∧ Aside0 (Below w.heap.size w wc))
      case first =>
       have H := HC20.out
       clear HC20
       by_cases c21 : x43_14 = true
       ·subst c21
        have H1 : (paybooklaw05_PackGets.j2 kj14 l0 a1 a2 t402 t407 t408 1 t403 t406) = some true := by rw [if_pos rfl] at H; try exact H
        clear H
        have H := H1
        clear H1
        have H' := Aside0.mk H
        clear H
        go_wp2
        go_meet
        case rel => exact ⟨_, (1), (by first | rfl | (simp; done) | (simp [*]; done)), H', ⟨by have := HJ3.out; have := HJ14.out; first | omega | exact Nat.le_refl _⟩, ⟨by (with_reducible repeat (first | apply Kd.Q_alloc | apply Kd.Q_drewN | apply Kd.Q_drew)); exact HO_402000.out⟩, ⟨by (with_reducible repeat (first | refine blk_drewN ?_ _ | refine blk_drew ?_ | refine blk_alloc ?_ _)); exact BK401.out⟩, ⟨by repeat (first | (with_reducible first | exact HB.out | apply below_alloc | apply pw_below_drewN | apply below_drew1 | refine below_set ?_ GE401.out) | exact HB.out)⟩⟩
       ·replace c21 := Bool.eq_false_iff.mpr c21
        subst c21
        have H1 : (paybooklaw05_PackGets.j2 kj14 l0 a1 a2 t402 t407 t408 t409 t403 t406) = some true := by rw [if_neg (show ¬ (false = true) by decide)] at H; try exact H
        clear H
        have H := H1
        clear H1
        have H' := Aside0.mk H
        clear H
        go_wp2
        go_meet
        case rel => exact ⟨_, (t409), (by first | rfl | (simp; done) | (simp [*]; done)), H', ⟨by have := HJ3.out; have := HJ14.out; first | omega | exact Nat.le_refl _⟩, ⟨by (with_reducible repeat (first | apply Kd.Q_alloc | apply Kd.Q_drewN | apply Kd.Q_drew)); exact HO_402000.out⟩, ⟨by (with_reducible repeat (first | refine blk_drewN ?_ _ | refine blk_drew ?_ | refine blk_alloc ?_ _)); exact BK401.out⟩, ⟨by repeat (first | (with_reducible first | exact HB.out | apply below_alloc | apply pw_below_drewN | apply below_drew1 | refine below_set ?_ GE401.out) | exact HB.out)⟩⟩
      case rest =>
       clear HC20
       try clear c1
       try clear c2
       try clear p2
       try clear c6
       try clear c7
       try clear c9
       try clear c10
       try clear c16
       try clear c17
       try clear c18
       try clear c18b0
       try clear c18b1
       try clear c19
       try clear c19b0
       try clear c21
       try clear p2
       obtain ⟨kq, x11_19, rfl, HA, HJ19, HO_402000, BK401, HB⟩ := hcut
       cases kq with
       | zero => exact absurd HA.out (by simp [paybooklaw05_PackGets.j2])
       | succ kj19 =>
        have H := HA.out
        clear HA
        simp only [paybooklaw05_PackGets.j2] at H
        by_cases c22 : x11_19 = 0
        ·rw [if_pos c22] at H
         have c22b0 : (x11_19 == 0) = true := beq_iff_eq.mpr c22
         have c22b1 : (x11_19 != 0) = false := bne_eq_false_iff_eq.mpr c22
         clear c22
         by_cases c23 : t402 = t407
         ·rw [if_pos c23] at H
          have c23b0 : (t402 == t407) = true := beq_iff_eq.mpr c23
          have c23b1 : (t402 != t407) = false := bne_eq_false_iff_eq.mpr c23
          clear c23
          replace H := Option.bind_eq_some_iff.mp H
          obtain ⟨⟨t410, t411, t414⟩, A240, H⟩ := H
          replace H : (if t410 = 0 then ((pack_Box_Left.f t411 t414).bind fun bt415 => (some (bt415.1 == (wrap64 ((l0.length : Int) - t408))))) else (some false)) = some true := H
          have A24 := Aside0.mk A240
          clear A240
          by_cases c25 : t410 = 0
          ·rw [if_pos c25] at H
           have c25b0 : (t410 == 0) = true := beq_iff_eq.mpr c25
           have c25b1 : (t410 != 0) = false := bne_eq_false_iff_eq.mpr c25
           clear c25
           replace H := Option.bind_eq_some_iff.mp H
           obtain ⟨⟨t415, t416, t419⟩, A260, H⟩ := H
           replace H : (some (t415 == (wrap64 ((l0.length : Int) - t408)))) = some true := H
           have A26 := Aside0.mk A260
           clear A260
           have HT_ := Option.some.inj H
           clear H
           (try (have HT_z_ := HT_; simp only [beq_true, beq_false, true_beq, false_beq, Bool.not_eq_true', Bool.not_eq_false', Bool.not_true, Bool.not_false] at HT_z_))
           go_wp2_with (first | (go_at_call 18; (with_reducible refine (pack_Box_Fault.calls gb401 (fun k_ => some k_ = (v404 : Value).ownBlock) v404 t403 t406 t410 t411 t414 w _ ?side1 ?side2 ?side3 ?side4 A24.out).mono ?_); (case side1 => repeat (first | (with_reducible first | exact HB.out | apply below_alloc | apply pw_below_drewN | apply below_drew1 | refine below_set ?_ GE401.out) | exact HB.out)); (case side2 => exact (by (with_reducible repeat (first | refine blk_drewN ?_ _ | refine blk_drew ?_ | refine blk_alloc ?_ _)); exact BK401.out)); (case side3 => exact GE401.out); (case side4 => exact Kd.Q_tight rfl HO_402000.out); rintro e w27 ⟨v412, rfl, ho0, hi, hb, hkp⟩; have n0_ := Aside0.mk (hi); have n1_ := Aside0.mk (Kd.Q_mono (ok' := fun k_ => True) ho0 (fun k_ hk_ => trivial)); have n2_ := Aside0.mk (hb); clear BK401; clear HB; clear HO_402000; have BK401 := n0_; have HO413 := n1_; have HB := n2_; clear n0_ n1_ n2_; (try clear hb); (try clear hkp); (try clear hi); (try clear ho0)) | (go_at_call 20; (with_reducible refine (pack_Box_Left.calls gb401 (fun k_ => some k_ = (v412 : Value).ownBlock) v412 t411 t414 t415 t416 t419 w _ ?side1 ?side2 ?side3 ?side4 A26.out).mono ?_); (case side1 => repeat (first | (with_reducible first | exact HB.out | apply below_alloc | apply pw_below_drewN | apply below_drew1 | refine below_set ?_ GE401.out) | exact HB.out)); (case side2 => exact (by (with_reducible repeat (first | refine blk_drewN ?_ _ | refine blk_drew ?_ | refine blk_alloc ?_ _)); exact BK401.out)); (case side3 => exact GE401.out); (case side4 => exact Kd.Q_tight rfl HO413.out); rintro e w28 ⟨v417, rfl, ho0, hi, hb, hkp⟩; have n0_ := Aside0.mk (hi); have n1_ := Aside0.mk (Kd.Q_mono (ok' := fun k_ => True) ho0 (fun k_ hk_ => trivial)); have n2_ := Aside0.mk (hb); clear BK401; clear HB; clear HO413; have BK401 := n0_; have HO418 := n1_; have HB := n2_; clear n0_ n1_ n2_; (try clear hb); (try clear hkp); (try clear hi); (try clear ho0)))
           go_ret
           exact ⟨by first | rfl | (simp [errW_none, errW_some] <;> rfl) | (simp [*, errW_none, errW_some] <;> rfl), by repeat (first | (with_reducible first | exact HB.out | apply below_alloc | apply pw_below_drewN | apply below_drew1 | refine below_set ?_ GE401.out) | exact HB.out)⟩
          ·rw [if_neg c25] at H
           have c25b0 : (t410 == 0) = false := beq_eq_false_iff_ne.mpr c25
           have c25b1 : (t410 != 0) = true := bne_iff_ne.mpr c25
           exact absurd H (by simp)
         ·rw [if_neg c23] at H
          have c23b0 : (t402 == t407) = false := beq_eq_false_iff_ne.mpr c23
          have c23b1 : (t402 != t407) = true := bne_iff_ne.mpr c23
          exact absurd H (by simp)
        ·rw [if_neg c22] at H
         have c22b0 : (x11_19 == 0) = false := beq_eq_false_iff_ne.mpr c22
         have c22b1 : (x11_19 != 0) = true := bne_iff_ne.mpr c22
         by_cases c29 : t402 = 0
         ·rw [if_pos c29] at H
          have c29b0 : (t402 == 0) = true := beq_iff_eq.mpr c29
          have c29b1 : (t402 != 0) = false := bne_eq_false_iff_eq.mpr c29
          clear c29
          replace H := Option.bind_eq_some_iff.mp H
          obtain ⟨⟨t420, t421, t424⟩, A300, H⟩ := H
          replace H : (if t420 = x11_19 then ((pack_Box_Get.f kj19 t421 t424 a1 a2).bind fun bt425 => (if bt425.1 = 0 then ((pack_Box_End.f bt425.2.1 bt425.2.2).bind fun bt430 => (if bt430.1 = x11_19 then ((pack_Box_GetFlag.f kj19 bt430.2.1 bt430.2.2).bind fun bt435 => (if bt435.1 = true then (some false) else ((pack_Box_GetBytes.f kj19 bt435.2.1 bt435.2.2 9).bind fun bt440 => (some ((bt440.1.length : Int) == 0))))) else (some false))) else (some false))) else (some false)) = some true := H
          have A30 := Aside0.mk A300
          clear A300
          by_cases c31 : t420 = x11_19
          ·rw [if_pos c31] at H
           have c31b0 : (t420 == x11_19) = true := beq_iff_eq.mpr c31
           have c31b1 : (t420 != x11_19) = false := bne_eq_false_iff_eq.mpr c31
           clear c31
           replace H := Option.bind_eq_some_iff.mp H
           obtain ⟨⟨t425, t426, t429⟩, A320, H⟩ := H
           replace H : (if t425 = 0 then ((pack_Box_End.f t426 t429).bind fun bt430 => (if bt430.1 = x11_19 then ((pack_Box_GetFlag.f kj19 bt430.2.1 bt430.2.2).bind fun bt435 => (if bt435.1 = true then (some false) else ((pack_Box_GetBytes.f kj19 bt435.2.1 bt435.2.2 9).bind fun bt440 => (some ((bt440.1.length : Int) == 0))))) else (some false))) else (some false)) = some true := H
           have A32 := Aside0.mk A320
           clear A320
           by_cases c33 : t425 = 0
           ·rw [if_pos c33] at H
            have c33b0 : (t425 == 0) = true := beq_iff_eq.mpr c33
            have c33b1 : (t425 != 0) = false := bne_eq_false_iff_eq.mpr c33
            clear c33
            replace H := Option.bind_eq_some_iff.mp H
            obtain ⟨⟨t430, t431, t434⟩, A340, H⟩ := H
            replace H : (if t430 = x11_19 then ((pack_Box_GetFlag.f kj19 t431 t434).bind fun bt435 => (if bt435.1 = true then (some false) else ((pack_Box_GetBytes.f kj19 bt435.2.1 bt435.2.2 9).bind fun bt440 => (some ((bt440.1.length : Int) == 0))))) else (some false)) = some true := H
            have A34 := Aside0.mk A340
            clear A340
            by_cases c35 : t430 = x11_19
            ·rw [if_pos c35] at H
             have c35b0 : (t430 == x11_19) = true := beq_iff_eq.mpr c35
             have c35b1 : (t430 != x11_19) = false := bne_eq_false_iff_eq.mpr c35
             clear c35
             replace H := Option.bind_eq_some_iff.mp H
             obtain ⟨⟨t435, t436, t439⟩, A360, H⟩ := H
             replace H : (if t435 = true then (some false) else ((pack_Box_GetBytes.f kj19 t436 t439 9).bind fun bt440 => (some ((bt440.1.length : Int) == 0)))) = some true := H
             have A36 := Aside0.mk A360
             clear A360
             by_cases c37 : t435 = true
             ·subst c37
              have H1 : (some false) = some true := by rw [if_pos rfl] at H; try exact H
              clear H
              have H := H1
              clear H1
              exact absurd H (by simp)
             ·replace c37 := Bool.eq_false_iff.mpr c37
              subst c37
              have H1 : ((pack_Box_GetBytes.f kj19 t436 t439 9).bind fun bt440 => (some ((bt440.1.length : Int) == 0))) = some true := by rw [if_neg (show ¬ (false = true) by decide)] at H; try exact H
              clear H
              have H := H1
              clear H1
              replace H := Option.bind_eq_some_iff.mp H
              obtain ⟨⟨t440, t443, t446⟩, A380, H⟩ := H
              replace H : (some ((t440.length : Int) == 0)) = some true := H
              have A38 := Aside0.mk A380
              clear A380
              have HT_ := Option.some.inj H
              clear H
              (try (have HT_z_ := HT_; simp only [beq_true, beq_false, true_beq, false_beq, Bool.not_eq_true', Bool.not_eq_false', Bool.not_true, Bool.not_false] at HT_z_))
              go_wp2_with (first | (go_at_call 18; (with_reducible refine (pack_Box_Fault.calls gb401 (fun k_ => some k_ = (v404 : Value).ownBlock) v404 t403 t406 t420 t421 t424 w _ ?side1 ?side2 ?side3 ?side4 A30.out).mono ?_); (case side1 => repeat (first | (with_reducible first | exact HB.out | apply below_alloc | apply pw_below_drewN | apply below_drew1 | refine below_set ?_ GE401.out) | exact HB.out)); (case side2 => exact (by (with_reducible repeat (first | refine blk_drewN ?_ _ | refine blk_drew ?_ | refine blk_alloc ?_ _)); exact BK401.out)); (case side3 => exact GE401.out); (case side4 => exact Kd.Q_tight rfl HO_402000.out); rintro e w39 ⟨v422, rfl, ho0, hi, hb, hkp⟩; have n0_ := Aside0.mk (hi); have n1_ := Aside0.mk (Kd.Q_mono (ok' := fun k_ => True) ho0 (fun k_ hk_ => trivial)); have n2_ := Aside0.mk (hb); clear BK401; clear HB; clear HO_402000; have BK401 := n0_; have HO423 := n1_; have HB := n2_; clear n0_ n1_ n2_; (try clear hb); (try clear hkp); (try clear hi); (try clear ho0)) | (go_at_call 17; (with_reducible refine (pack_Box_Get.calls kj19 gb401 (fun k_ => some k_ = (v422 : Value).ownBlock) v422 t421 t424 a1 a2 t425 t426 t429 w _ ?side1 ?side2 ?side3 ?side4 A32.out).mono ?_); (case side1 => repeat (first | (with_reducible first | exact HB.out | apply below_alloc | apply pw_below_drewN | apply below_drew1 | refine below_set ?_ GE401.out) | exact HB.out)); (case side2 => exact (by (with_reducible repeat (first | refine blk_drewN ?_ _ | refine blk_drew ?_ | refine blk_alloc ?_ _)); exact BK401.out)); (case side3 => exact GE401.out); (case side4 => exact Kd.Q_tight rfl HO423.out); rintro e w40 ⟨v427, rfl, ho0, hi, hb, hkp⟩; have n0_ := Aside0.mk (hi); have n1_ := Aside0.mk (Kd.Q_mono (ok' := fun k_ => True) ho0 (fun k_ hk_ => trivial)); have n2_ := Aside0.mk (hb); clear BK401; clear HB; clear HO423; have BK401 := n0_; have HO428 := n1_; have HB := n2_; clear n0_ n1_ n2_; (try clear hb); (try clear hkp); (try clear hi); (try clear ho0)) | (go_at_call 19; (with_reducible refine (pack_Box_End.calls gb401 (fun k_ => some k_ = (v427 : Value).ownBlock) v427 t426 t429 t430 t431 t434 w _ ?side1 ?side2 ?side3 ?side4 A34.out).mono ?_); (case side1 => repeat (first | (with_reducible first | exact HB.out | apply below_alloc | apply pw_below_drewN | apply below_drew1 | refine below_set ?_ GE401.out) | exact HB.out)); (case side2 => exact (by (with_reducible repeat (first | refine blk_drewN ?_ _ | refine blk_drew ?_ | refine blk_alloc ?_ _)); exact BK401.out)); (case side3 => exact GE401.out); (case side4 => exact Kd.Q_tight rfl HO428.out); rintro e w41 ⟨v432, rfl, ho0, hi, hb, hkp⟩; have n0_ := Aside0.mk (hi); have n1_ := Aside0.mk (Kd.Q_mono (ok' := fun k_ => True) ho0 (fun k_ hk_ => trivial)); have n2_ := Aside0.mk (hb); clear BK401; clear HB; clear HO428; have BK401 := n0_; have HO433 := n1_; have HB := n2_; clear n0_ n1_ n2_; (try clear hb); (try clear hkp); (try clear hi); (try clear ho0)) | (go_at_call 22; (with_reducible refine (pack_Box_GetFlag.calls kj19 gb401 (fun k_ => some k_ = (v432 : Value).ownBlock) v432 t431 t434 false t436 t439 w _ ?side1 ?side2 ?side3 ?side4 A36.out).mono ?_); (case side1 => repeat (first | (with_reducible first | exact HB.out | apply below_alloc | apply pw_below_drewN | apply below_drew1 | refine below_set ?_ GE401.out) | exact HB.out)); (case side2 => exact (by (with_reducible repeat (first | refine blk_drewN ?_ _ | refine blk_drew ?_ | refine blk_alloc ?_ _)); exact BK401.out)); (case side3 => exact GE401.out); (case side4 => exact Kd.Q_tight rfl HO433.out); rintro e w42 ⟨v437, rfl, ho0, hi, hb, hkp⟩; have n0_ := Aside0.mk (hi); have n1_ := Aside0.mk (Kd.Q_mono (ok' := fun k_ => True) ho0 (fun k_ hk_ => trivial)); have n2_ := Aside0.mk (hb); clear BK401; clear HB; clear HO433; have BK401 := n0_; have HO438 := n1_; have HB := n2_; clear n0_ n1_ n2_; (try clear hb); (try clear hkp); (try clear hi); (try clear ho0)) | (go_at_call 23; (with_reducible refine (pack_Box_GetBytes.calls kj19 gb401 (fun k_ => some k_ = (v437 : Value).ownBlock) v437 t436 t439 9 t440 t443 t446 w _ ?side1 ?side2 ?side3 ?side4 A38.out).mono ?_); (case side1 => repeat (first | (with_reducible first | exact HB.out | apply below_alloc | apply pw_below_drewN | apply below_drew1 | refine below_set ?_ GE401.out) | exact HB.out)); (case side2 => exact (by (with_reducible repeat (first | refine blk_drewN ?_ _ | refine blk_drew ?_ | refine blk_alloc ?_ _)); exact BK401.out)); (case side3 => exact GE401.out); (case side4 => exact Kd.Q_tight rfl HO438.out); rintro e w43 ⟨v441, v444, rfl, ho0, ho1, hi, hb, hkp⟩; have n0_ := Aside0.mk (hi); have n1_ := Aside0.mk (Kd.R_mono (ok' := fun k_ => some k_ ≠ (v444 : Value).ownBlock) ho0 (fun k_ hk_ => hk_.2)); have n2_ := Aside0.mk (Kd.Q_mono (ok' := fun k_ => some k_ ≠ (v441 : Value).ownBlock) ho1 (fun k_ hk_ => hk_.2)); have n3_ := Aside0.mk (hb); clear BK401; clear HB; clear HO438; have BK401 := n0_; have HO442 := n1_; have HO445 := n2_; have HB := n3_; clear n0_ n1_ n2_ n3_; (try clear hb); (try clear hkp); (try clear hi); (try clear ho0); (try clear ho1); obtain ⟨Ao44, co44, eo44⟩ := Kd.R_slice HO442.out; subst eo44))
              go_ret
              exact ⟨by first | rfl | (simp [errW_none, errW_some] <;> rfl) | (simp [*, errW_none, errW_some] <;> rfl), by repeat (first | (with_reducible first | exact HB.out | apply below_alloc | apply pw_below_drewN | apply below_drew1 | refine below_set ?_ GE401.out) | exact HB.out)⟩
            ·rw [if_neg c35] at H
             have c35b0 : (t430 == x11_19) = false := beq_eq_false_iff_ne.mpr c35
             have c35b1 : (t430 != x11_19) = true := bne_iff_ne.mpr c35
             exact absurd H (by simp)
           ·rw [if_neg c33] at H
            have c33b0 : (t425 == 0) = false := beq_eq_false_iff_ne.mpr c33
            have c33b1 : (t425 != 0) = true := bne_iff_ne.mpr c33
            exact absurd H (by simp)
          ·rw [if_neg c31] at H
           have c31b0 : (t420 == x11_19) = false := beq_eq_false_iff_ne.mpr c31
           have c31b1 : (t420 != x11_19) = true := bne_iff_ne.mpr c31
           exact absurd H (by simp)
         ·rw [if_neg c29] at H
          have c29b0 : (t402 == 0) = false := beq_eq_false_iff_ne.mpr c29
          have c29b1 : (t402 != 0) = true := bne_iff_ne.mpr c29
          exact absurd H (by simp)

/-- THE ONE PURE STATEMENT of paybooklaw05_PackGets: yours. -/
def paybooklaw05_PackGets.Pure : Prop := ∀ (l0 : List Int) (a1 : Int) (a2 : Int), l0.length ≤ maxLen → l0.length * 1 ≤ 140737488351232 → (∀ x ∈ l0, (Lit.int .u8 x).wf = true) → (Lit.int .i64 a1).wf = true → (Lit.int .i64 a2).wf = true → ∃ k, paybooklaw05_PackGets.f k l0 a1 a2 = some true
theorem paybooklaw05_PackGets.walk (P : paybooklaw05_PackGets.Pure) (a0 : Option Addr) (len0 cap0 : Nat) (z0 : List Int) (a1 : Int) (a2 : Int) (w : World) (w0 : (a0 = none ∧ len0 = 0 ∧ cap0 = 0 ∧ z0 = []) ∨ ∃ x, a0 = some x ∧ len0 ≤ cap0 ∧ cap0 ≤ maxLen ∧ z0.length = cap0 ∧ (∀ i, i < z0.length → w.cell? (x.add i) = some (.int .u8 (z0.getD i 0))) ∧ ∀ n ∈ z0, (Lit.int .u8 n).wf = true) (y0 : len0 * 1 ≤ 140737488351232) (w1 : (Lit.int .i64 a1).wf = true) (w2 : (Lit.int .i64 a2).wf = true) :
  Calls Try.prog 7 #[.slice a0 len0 cap0, .int .i64 a1, .int .i64 a2] w fun e w' => e = .returned (.bool true) ∧ Below w.heap.size w w' := by
 obtain ⟨l0, rfl, hr0, hm0, hw0, hc0⟩ := ReadsInt.ofRowC w0
 obtain ⟨k, h⟩ := P l0 a1 a2 hm0 y0 hw0 w1 w2
 refine (paybooklaw05_PackGets.calls k _ _ l0 a1 a2 w (Kd.C_of_reads (d := (0 : Int)) (h1 := fun _ => rfl) hr0) hc0 h).mono ?_
 rintro e w' ⟨rfl, hd⟩
 exact ⟨rfl, hd⟩

end Go.Proofs.Ytinmndkhipfccaa.PA
