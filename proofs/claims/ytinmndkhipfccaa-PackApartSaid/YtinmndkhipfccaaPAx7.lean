-- printed by this workplace: wip/patchprint.py over the kit's print
import Derived.Test.YtinmndkhipfccaaPAx0
import Derived.Test.YtinmndkhipfccaaPAx1
import Derived.Test.YtinmndkhipfccaaPAx2
import Derived.Test.YtinmndkhipfccaaPAx3
import Derived.Test.YtinmndkhipfccaaPAx4
namespace Go.Proofs.Ytinmndkhipfccaa.PA
open Go.RowKit Go.Proofs.YtinmndkhipfccaaW.PrintWords Go.Proofs.YtinmndkhipfccaaW.PrintLast Go.Proofs.YtinmndkhipfccaaW.PrintMore
attribute [local go_sem] max2_int min2_int max_two min_two max_three min_three max_four min_four   -- for this text's walks alone
set_option linter.unusedVariables false
set_option linter.unusedSimpArgs false

/-! ### paybooklaw05_PackApart: function 3 -/
mutual
def paybooklaw05_PackApart.j0 : Nat → List Int → List Int → Bool → Option (Bool)
 | 0, _, _, _ => none
 | k + 1, x0, x1, x25 => if x25 = true then ((paybooklaw05_awake.f k).bind fun t183 => (some t183)) else (paybooklaw05_PackApart.l0 k x0 x1 true 0)
def paybooklaw05_PackApart.l0 : Nat → List Int → List Int → Bool → Int → Option (Bool)
 | 0, _, _, _, _ => none
 | k + 1, x0, x1, x5, x6 => if x6 < (x0.length : Int) then (if x5 = true then (if 0 ≤ x6 then (if x6 < (x1.length : Int) then (paybooklaw05_PackApart.l0 k x0 x1 ((rd x0 x6) == (rd x1 x6)) (wrap64 (x6 + 1))) else (none)) else (none)) else (paybooklaw05_PackApart.l0 k x0 x1 false (wrap64 (x6 + 1)))) else ((pack_New.f).bind fun bt186 => ((pack_Box_Put.f k bt186.1 bt186.2 x0).bind fun bt191 => ((pack_Box_Done.f bt191.1 bt191.2).bind fun bt195 => ((pack_New.f).bind fun bt202 => ((pack_Box_Put.f k bt202.1 bt202.2 x1).bind fun bt207 => ((pack_Box_Done.f bt207.1 bt207.2).bind fun bt211 => (some (((strOfNums bt195.1).toList == (strOfNums bt211.1).toList) == x5))))))))
end
def paybooklaw05_PackApart.f (k : Nat) (l0 : List Int) (l1 : List Int) : Option (Bool) := (paybooklaw05_awake.f k).bind fun t182 => (if t182 = true then (if (l0.length : Int) > 20 then (paybooklaw05_PackApart.j0 k l0 l1 true) else (if (l1.length : Int) > 20 then (paybooklaw05_PackApart.j0 k l0 l1 true) else (paybooklaw05_PackApart.j0 k l0 l1 ((l0.length : Int) != (l1.length : Int))))) else (paybooklaw05_PackApart.j0 k l0 l1 true))
theorem paybooklaw05_PackApart.mono_l : ∀ k, (∀ y0 y1 y2, LeO (paybooklaw05_PackApart.j0 k y0 y1 y2) (paybooklaw05_PackApart.j0 (k + 1) y0 y1 y2)) ∧ (∀ y0 y1 y2 y3, LeO (paybooklaw05_PackApart.l0 k y0 y1 y2 y3) (paybooklaw05_PackApart.l0 (k + 1) y0 y1 y2 y3))
 | 0 => ⟨fun _ _ _ r h => by simp [paybooklaw05_PackApart.j0] at h, fun _ _ _ _ r h => by simp [paybooklaw05_PackApart.l0] at h⟩
 | k + 1 => by
  obtain ⟨ih0, ih1⟩ := paybooklaw05_PackApart.mono_l k
  refine ⟨?_, ?_⟩
  ·intro y0 y1 y2
   unfold paybooklaw05_PackApart.j0
   repeat' first
   | (with_reducible exact ih0 _ _ _)
   | (with_reducible exact ih1 _ _ _ _)
   | (with_reducible exact pack_Box_Put.mono _ _ _ _)
   | (with_reducible exact paybooklaw05_awake.mono _)
   | (with_reducible exact LeO.refl _)
   | (with_reducible exact LeO.none _)
   | (with_reducible refine LeO.ite ?_ ?_)
   | (with_reducible refine LeO.bind ?_ (fun _ => ?_))
   | exact ih0 _ _ _
   | exact ih1 _ _ _ _
   | exact pack_Box_Put.mono _ _ _ _
   | exact paybooklaw05_awake.mono _
   | exact LeO.none _
   | refine LeO.ite ?_ ?_
   | refine LeO.bind ?_ (fun _ => ?_)
  ·intro y0 y1 y2 y3
   unfold paybooklaw05_PackApart.l0
   repeat' first
   | (with_reducible exact ih0 _ _ _)
   | (with_reducible exact ih1 _ _ _ _)
   | (with_reducible exact pack_Box_Put.mono _ _ _ _)
   | (with_reducible exact paybooklaw05_awake.mono _)
   | (with_reducible exact LeO.refl _)
   | (with_reducible exact LeO.none _)
   | (with_reducible refine LeO.ite ?_ ?_)
   | (with_reducible refine LeO.bind ?_ (fun _ => ?_))
   | exact ih0 _ _ _
   | exact ih1 _ _ _ _
   | exact pack_Box_Put.mono _ _ _ _
   | exact paybooklaw05_awake.mono _
   | exact LeO.none _
   | refine LeO.ite ?_ ?_
   | refine LeO.bind ?_ (fun _ => ?_)
theorem paybooklaw05_PackApart.mono : ∀ a0 a1 k, LeO (paybooklaw05_PackApart.f k a0 a1) (paybooklaw05_PackApart.f (k + 1) a0 a1) := by
 intro a0 a1 k
 obtain ⟨ih0, ih1⟩ := paybooklaw05_PackApart.mono_l k
 unfold paybooklaw05_PackApart.f
 repeat' first
   | (with_reducible exact ih0 _ _ _)
   | (with_reducible exact ih1 _ _ _ _)
   | (with_reducible exact pack_Box_Put.mono _ _ _ _)
   | (with_reducible exact paybooklaw05_awake.mono _)
   | (with_reducible exact LeO.refl _)
   | (with_reducible exact LeO.none _)
   | (with_reducible refine LeO.ite ?_ ?_)
   | (with_reducible refine LeO.bind ?_ (fun _ => ?_))
   | exact ih0 _ _ _
   | exact ih1 _ _ _ _
   | exact pack_Box_Put.mono _ _ _ _
   | exact paybooklaw05_awake.mono _
   | exact LeO.none _
   | refine LeO.ite ?_ ?_
   | refine LeO.bind ?_ (fun _ => ?_)
def paybooklaw05_PackApart.T7 : Bool × List (List Nat × List Nat) := (true, [([], []), ([0], [0]), ([1], [1]), ([1], [1]), ([2, 3, 1], [1, 2, 3]), ([4, 1], [1, 4]), ([1], [1]), ([1], [1]), ([6, 7, 1], [1, 6, 7]), ([8, 1], [1, 8]), ([5, 9, 1], [1, 5, 9]), ([1, 10], [1, 10]), ([11, 1, 0, 1, 2, 3, 4, 5, 6, 7, 8, 9, 10, 11], [0, 11])])
def paybooklaw05_PackApart.B7 : List Nat := [0, 1, 3, 3, 15, 31, 3, 3, 195, 451, 1023, 2047, 4095]
theorem paybooklaw05_PackApart.tab7 : rtab .any (opsOf Try.f3 7) = paybooklaw05_PackApart.T7 := by kernel_rfl
theorem paybooklaw05_PackApart.bits7 : waitsOk paybooklaw05_PackApart.T7.2 paybooklaw05_PackApart.B7 = true := by kernel_rfl
def paybooklaw05_PackApart.T8 : Bool × List (List Nat × List Nat) := (true, [([], []), ([], []), ([0, 1, 0], [0, 1]), ([2, 2], [2]), ([3], [3]), ([3], []), ([], []), ([5, 6, 5], [5, 6]), ([7, 7], [7]), ([8], [8]), ([4, 9], [4, 9]), ([], []), ([10, 11], [10, 11]), ([12, 8, 0, 1, 2, 3, 4, 5, 6, 7, 8, 9, 10, 11, 12], [12])])
def paybooklaw05_PackApart.B8 : List Nat := [0, 0, 3, 7, 15, 15, 0, 111, 239, 495, 1023, 0, 4095, 8191]
theorem paybooklaw05_PackApart.tab8 : rtab .any (opsOf Try.f3 8) = paybooklaw05_PackApart.T8 := by kernel_rfl
theorem paybooklaw05_PackApart.bits8 : waitsOk paybooklaw05_PackApart.T8.2 paybooklaw05_PackApart.B8 = true := by kernel_rfl
set_option maxHeartbeats 40000000 in
set_option maxRecDepth 100000 in
theorem paybooklaw05_PackApart.calls (k : Nat) (A0 : Option Addr) (c0 : Nat) (l0 : List Int) (A1 : Option Addr) (c1 : Nat) (l1 : List Int) (w : World) (hr0 : Kd.C (Kd.int .i64) w A0 l0.length l0) (hc0 : l0.length ≤ c0) (hr1 : Kd.C (Kd.int .i64) w A1 l1.length l1) (hc1 : l1.length ≤ c1) (h : paybooklaw05_PackApart.f k l0 l1 = some true) :
  Calls Try.prog 3 #[.slice A0 l0.length c0, .slice A1 l1.length c1] w fun e w' => e = .returned (.bool true) ∧ Below w.heap.size w w' := by
 have HR0 := Aside0.mk hr0
 have HC0 := Aside0.mk hc0
 clear hr0 hc0
 have HR1 := Aside0.mk hr1
 have HC1 := Aside0.mk hc1
 clear hr1 hc1
 have HB := Aside0.mk (Below.refl w.heap.size w)
 have H : ((paybooklaw05_awake.f k).bind fun t182 => (if t182 = true then (if (l0.length : Int) > 20 then (paybooklaw05_PackApart.j0 k l0 l1 true) else (if (l1.length : Int) > 20 then (paybooklaw05_PackApart.j0 k l0 l1 true) else (paybooklaw05_PackApart.j0 k l0 l1 ((l0.length : Int) != (l1.length : Int))))) else (paybooklaw05_PackApart.j0 k l0 l1 true))) = some true := h
 clear h
 have HC3 := Aside0.mk H
 clear H
 go_enter Try.func3, Try.ntmps3
 go_upto_region 1 with (fail)
 go_cut [25] (fun v25 wc => ∃ (kq : Nat) (x25_2 : Bool), v25 = .bool x25_2 ∧ Aside0 (paybooklaw05_PackApart.j0 kq l0 l1 x25_2 = some true) ∧ Aside0 (kq ≤ k) ∧ Aside0 (Below w.heap.size w wc))
 case first =>
  have H := HC3.out
  clear HC3
  replace H := Option.bind_eq_some_iff.mp H
  obtain ⟨t182, A40, H⟩ := H
  replace H : (if t182 = true then (if (l0.length : Int) > 20 then (paybooklaw05_PackApart.j0 k l0 l1 true) else (if (l1.length : Int) > 20 then (paybooklaw05_PackApart.j0 k l0 l1 true) else (paybooklaw05_PackApart.j0 k l0 l1 ((l0.length : Int) != (l1.length : Int))))) else (paybooklaw05_PackApart.j0 k l0 l1 true)) = some true := H
  have A4 := Aside0.mk A40
  clear A40
  by_cases c5 : t182 = true
  ·subst c5
   have H1 : (if (l0.length : Int) > 20 then (paybooklaw05_PackApart.j0 k l0 l1 true) else (if (l1.length : Int) > 20 then (paybooklaw05_PackApart.j0 k l0 l1 true) else (paybooklaw05_PackApart.j0 k l0 l1 ((l0.length : Int) != (l1.length : Int))))) = some true := by rw [if_pos rfl] at H; try exact H
   clear H
   have H := H1
   clear H1
   by_cases c6 : (l0.length : Int) > 20
   ·rw [if_pos c6] at H
    have c6b0 : decide (20 < (l0.length : Int)) = true := decide_eq_true c6
    have c6b1 : decide (20 < l0.length) = true := decide_eq_true (by omega)
    clear c6
    (first | (generalize hg_ : decide (20 < (l0.length : Int)) = bg_ at *; subst c6b0; have c6b0 := hg_; clear hg_) | rw [c6b0] | (simp only [i64_w, i32_w]; rw [c6b0]) | skip)
    have H' := Aside0.mk H
    clear H
    go_wp2_with (first | (go_at_call 10; (with_reducible refine (paybooklaw05_awake.calls k  true _ A4.out).mono ?_); rintro e w7 ⟨rfl, hb⟩; have n0_ := Aside0.mk (below_step (by repeat (first | (with_reducible first | exact HB.out | apply below_alloc | apply pw_below_drewN | apply below_drew1) | exact HB.out)) hb); clear HB; have HB := n0_; clear n0_; (try clear hb); (try clear hb2); (try clear hk); (try clear hi)) | ((with_reducible refine gate_callee (f := 10) rfl ?_); refine goesL_ (some 7) rfl rfl Try.func10 (by kernel_rfl) rfl #[] rfl (by (try simp only [List.map_toArray, List.map_cons, List.map_nil]); first | done | rfl | (simp only [List.length_drop, List.length_take]; rfl)) ?_; (with_reducible refine (paybooklaw05_awake.calls k  true _ A4.out).mono ?_); rintro e w7 ⟨rfl, hb⟩; refine ⟨_, rfl, ?_⟩; have n0_ := Aside0.mk (below_step (by repeat (first | (with_reducible first | exact HB.out | apply below_alloc | apply pw_below_drewN | apply below_drew1) | exact HB.out)) hb); clear HB; have HB := n0_; clear n0_; (try clear hb); (try clear hb2); (try clear hk); (try clear hi)))
    go_meet
    case rel => exact ⟨_, (true), (by first | rfl | (simp; done) | (simp [*]; done)), H', ⟨by first | omega | exact Nat.le_refl _⟩, ⟨by repeat (first | (with_reducible first | exact HB.out | apply below_alloc | apply pw_below_drewN | apply below_drew1) | exact HB.out)⟩⟩
   ·rw [if_neg c6] at H
    have c6b0 : decide (20 < (l0.length : Int)) = false := decide_eq_false c6
    have c6b1 : decide (20 < l0.length) = false := decide_eq_false (by omega)
    clear c6
    (first | (generalize hg_ : decide (20 < (l0.length : Int)) = bg_ at *; subst c6b0; have c6b0 := hg_; clear hg_) | rw [c6b0] | (simp only [i64_w, i32_w]; rw [c6b0]) | skip)
    by_cases c8 : (l1.length : Int) > 20
    ·rw [if_pos c8] at H
     have c8b0 : decide (20 < (l1.length : Int)) = true := decide_eq_true c8
     have c8b1 : decide (20 < l1.length) = true := decide_eq_true (by omega)
     clear c8
     have H' := Aside0.mk H
     clear H
     go_wp2_with (first | (go_at_call 10; (with_reducible refine (paybooklaw05_awake.calls k  true _ A4.out).mono ?_); rintro e w9 ⟨rfl, hb⟩; have n0_ := Aside0.mk (below_step (by repeat (first | (with_reducible first | exact HB.out | apply below_alloc | apply pw_below_drewN | apply below_drew1) | exact HB.out)) hb); clear HB; have HB := n0_; clear n0_; (try clear hb); (try clear hb2); (try clear hk); (try clear hi)) | ((with_reducible refine gate_callee (f := 10) rfl ?_); refine goesL_ (some 7) rfl rfl Try.func10 (by kernel_rfl) rfl #[] rfl (by (try simp only [List.map_toArray, List.map_cons, List.map_nil]); first | done | rfl | (simp only [List.length_drop, List.length_take]; rfl)) ?_; (with_reducible refine (paybooklaw05_awake.calls k  true _ A4.out).mono ?_); rintro e w9 ⟨rfl, hb⟩; refine ⟨_, rfl, ?_⟩; have n0_ := Aside0.mk (below_step (by repeat (first | (with_reducible first | exact HB.out | apply below_alloc | apply pw_below_drewN | apply below_drew1) | exact HB.out)) hb); clear HB; have HB := n0_; clear n0_; (try clear hb); (try clear hb2); (try clear hk); (try clear hi)))
     go_meet
     case rel => exact ⟨_, (true), (by first | rfl | (simp; done) | (simp [*]; done)), H', ⟨by first | omega | exact Nat.le_refl _⟩, ⟨by repeat (first | (with_reducible first | exact HB.out | apply below_alloc | apply pw_below_drewN | apply below_drew1) | exact HB.out)⟩⟩
    ·rw [if_neg c8] at H
     have c8b0 : decide (20 < (l1.length : Int)) = false := decide_eq_false c8
     have c8b1 : decide (20 < l1.length) = false := decide_eq_false (by omega)
     clear c8
     have H' := Aside0.mk H
     clear H
     go_wp2_with (first | (go_at_call 10; (with_reducible refine (paybooklaw05_awake.calls k  true _ A4.out).mono ?_); rintro e w10 ⟨rfl, hb⟩; have n0_ := Aside0.mk (below_step (by repeat (first | (with_reducible first | exact HB.out | apply below_alloc | apply pw_below_drewN | apply below_drew1) | exact HB.out)) hb); clear HB; have HB := n0_; clear n0_; (try clear hb); (try clear hb2); (try clear hk); (try clear hi)) | ((with_reducible refine gate_callee (f := 10) rfl ?_); refine goesL_ (some 7) rfl rfl Try.func10 (by kernel_rfl) rfl #[] rfl (by (try simp only [List.map_toArray, List.map_cons, List.map_nil]); first | done | rfl | (simp only [List.length_drop, List.length_take]; rfl)) ?_; (with_reducible refine (paybooklaw05_awake.calls k  true _ A4.out).mono ?_); rintro e w10 ⟨rfl, hb⟩; refine ⟨_, rfl, ?_⟩; have n0_ := Aside0.mk (below_step (by repeat (first | (with_reducible first | exact HB.out | apply below_alloc | apply pw_below_drewN | apply below_drew1) | exact HB.out)) hb); clear HB; have HB := n0_; clear n0_; (try clear hb); (try clear hb2); (try clear hk); (try clear hi)))
     go_meet
     case rel => exact ⟨_, (((l0.length : Int) != (l1.length : Int))), (by first | rfl | (simp; done) | (simp [*]; done)), H', ⟨by first | omega | exact Nat.le_refl _⟩, ⟨by repeat (first | (with_reducible first | exact HB.out | apply below_alloc | apply pw_below_drewN | apply below_drew1) | exact HB.out)⟩⟩
  ·replace c5 := Bool.eq_false_iff.mpr c5
   subst c5
   have H1 : (paybooklaw05_PackApart.j0 k l0 l1 true) = some true := by rw [if_neg (show ¬ (false = true) by decide)] at H; try exact H
   clear H
   have H := H1
   clear H1
   have H' := Aside0.mk H
   clear H
   go_wp2_with (first | (go_at_call 10; (with_reducible refine (paybooklaw05_awake.calls k  false _ A4.out).mono ?_); rintro e w11 ⟨rfl, hb⟩; have n0_ := Aside0.mk (below_step (by repeat (first | (with_reducible first | exact HB.out | apply below_alloc | apply pw_below_drewN | apply below_drew1) | exact HB.out)) hb); clear HB; have HB := n0_; clear n0_; (try clear hb); (try clear hb2); (try clear hk); (try clear hi)) | ((with_reducible refine gate_callee (f := 10) rfl ?_); refine goesL_ (some 7) rfl rfl Try.func10 (by kernel_rfl) rfl #[] rfl (by (try simp only [List.map_toArray, List.map_cons, List.map_nil]); first | done | rfl | (simp only [List.length_drop, List.length_take]; rfl)) ?_; (with_reducible refine (paybooklaw05_awake.calls k  false _ A4.out).mono ?_); rintro e w11 ⟨rfl, hb⟩; refine ⟨_, rfl, ?_⟩; have n0_ := Aside0.mk (below_step (by repeat (first | (with_reducible first | exact HB.out | apply below_alloc | apply pw_below_drewN | apply below_drew1) | exact HB.out)) hb); clear HB; have HB := n0_; clear n0_; (try clear hb); (try clear hb2); (try clear hk); (try clear hi)))
   go_meet
   case rel => exact ⟨_, (true), (by first | rfl | (simp; done) | (simp [*]; done)), H', ⟨by first | omega | exact Nat.le_refl _⟩, ⟨by repeat (first | (with_reducible first | exact HB.out | apply below_alloc | apply pw_below_drewN | apply below_drew1) | exact HB.out)⟩⟩
 case rest =>
  clear HC3
  try clear c1
  try clear p2
  try clear c3
  try clear c5
  try clear c6
  try clear c6b0
  try clear c6b1
  try clear c8
  try clear c8b0
  try clear c8b1
  try clear c10
  obtain ⟨kq, x25_2, rfl, HA, HJ2, HB⟩ := hcut
  cases kq with
  | zero => exact absurd HA.out (by simp [paybooklaw05_PackApart.j0])
  | succ kj2 =>
   have H := HA.out
   clear HA
   simp only [paybooklaw05_PackApart.j0] at H
   by_cases c12 : x25_2 = true
   ·subst c12
    have H1 : ((paybooklaw05_awake.f kj2).bind fun t183 => (some t183)) = some true := by rw [if_pos rfl] at H; try exact H
    clear H
    have H := H1
    clear H1
    replace H := Option.bind_eq_some_iff.mp H
    obtain ⟨t183, A130, H⟩ := H
    replace H : (some t183) = some true := H
    have A13 := Aside0.mk A130
    clear A130
    have HT_ := Option.some.inj H
    clear H
    (try (have HT_z_ := HT_; simp only [beq_true, beq_false, true_beq, false_beq, Bool.not_eq_true', Bool.not_eq_false', Bool.not_true, Bool.not_false] at HT_z_))
    go_wp2_with (first | (go_at_call 10; (with_reducible refine (paybooklaw05_awake.calls kj2  t183 _ A13.out).mono ?_); rintro e w14 ⟨rfl, hb⟩; have n0_ := Aside0.mk (below_step (by repeat (first | (with_reducible first | exact HB.out | apply below_alloc | apply pw_below_drewN | apply below_drew1) | exact HB.out)) hb); clear HB; have HB := n0_; clear n0_; (try clear hb); (try clear hb2); (try clear hk); (try clear hi)) | ((with_reducible refine gate_callee (f := 10) rfl ?_); refine goesL_ (some 26) rfl rfl Try.func10 (by kernel_rfl) rfl #[] rfl (by (try simp only [List.map_toArray, List.map_cons, List.map_nil]); first | done | rfl | (simp only [List.length_drop, List.length_take]; rfl)) ?_; (with_reducible refine (paybooklaw05_awake.calls kj2  t183 _ A13.out).mono ?_); rintro e w14 ⟨rfl, hb⟩; refine ⟨_, rfl, ?_⟩; have n0_ := Aside0.mk (below_step (by repeat (first | (with_reducible first | exact HB.out | apply below_alloc | apply pw_below_drewN | apply below_drew1) | exact HB.out)) hb); clear HB; have HB := n0_; clear n0_; (try clear hb); (try clear hb2); (try clear hk); (try clear hi)))
    go_ret
    exact ⟨by first | rfl | (simp [errW_none, errW_some] <;> rfl) | (simp [*, errW_none, errW_some] <;> rfl), by repeat (first | (with_reducible first | exact HB.out | apply below_alloc | apply pw_below_drewN | apply below_drew1) | exact HB.out)⟩
   ·replace c12 := Bool.eq_false_iff.mpr c12
    subst c12
    have H1 : (paybooklaw05_PackApart.l0 kj2 l0 l1 true 0) = some true := by rw [if_neg (show ¬ (false = true) by decide)] at H; try exact H
    clear H
    have H := H1
    clear H1
    have H' := Aside0.mk H
    clear H
    go_wp2
    go_loopg [5, 6] kj2 (fun kq v5 v6 w' => ∃ (x5_2 : Bool) (x6_2 : Int), v5 = .bool x5_2 ∧ v6 = .int .i64 x6_2 ∧ Aside0 (paybooklaw05_PackApart.l0 kq l0 l1 x5_2 x6_2 = some true) ∧ Aside0 (kq ≤ kj2) ∧ Aside0 (Below w.heap.size w w'))
    case atStart => exact ⟨(true), (0), (by first | rfl | (simp; done) | (simp [*]; done)), (by first | rfl | (simp; done) | (simp [*]; done)), H', ⟨Nat.le_refl _⟩, ⟨by repeat (first | (with_reducible first | exact HB.out | apply below_alloc | apply pw_below_drewN | apply below_drew1) | exact HB.out)⟩⟩
    case round =>
     clear H'
     try clear c1
     try clear p2
     try clear c3
     try clear c5
     try clear c6
     try clear c6b0
     try clear c6b1
     try clear c8
     try clear c8b0
     try clear c8b1
     try clear c10
     try clear c12
     try clear p2
     obtain ⟨x5_2, x6_2, rfl, rfl, HA, HK2, HB⟩ := hrel
     cases gk with
     | zero => exact absurd HA.out (by simp [paybooklaw05_PackApart.l0])
     | succ k2 =>
      have H := HA.out
      clear HA
      simp only [paybooklaw05_PackApart.l0] at H
      by_cases c15 : x6_2 < (l0.length : Int)
      ·rw [if_pos c15] at H
       have c15b0 : decide (x6_2 < (l0.length : Int)) = true := decide_eq_true c15
       clear c15
       by_cases c16 : x5_2 = true
       ·subst c16
        have H1 : (if 0 ≤ x6_2 then (if x6_2 < (l1.length : Int) then (paybooklaw05_PackApart.l0 k2 l0 l1 ((rd l0 x6_2) == (rd l1 x6_2)) (wrap64 (x6_2 + 1))) else (none)) else (none)) = some true := by rw [if_pos rfl] at H; try exact H
        clear H
        have H := H1
        clear H1
        by_cases c17 : 0 ≤ x6_2
        ·rw [if_pos c17] at H
         have c17b0 : decide (0 ≤ x6_2) = true := decide_eq_true c17
         clear c17
         by_cases c18 : x6_2 < (l1.length : Int)
         ·rw [if_pos c18] at H
          have c18b0 : decide (x6_2 < (l1.length : Int)) = true := decide_eq_true c18
          clear c18
          have H' := Aside0.mk H
          clear H
          try go_wp2
          have n0_ := Aside0.mk (below_drew1 HB.out)
          clear HB
          have HB := n0_
          clear n0_
          have p184 : 0 ≤ (x6_2 : Int) := of_decide_eq_true (by first | (with_reducible assumption) | assumption)
          have q184 : x6_2 < (l0.length : Int) := of_decide_eq_true (by first | (with_reducible assumption) | assumption)
          obtain ⟨ad184, e184, hx184_0⟩ := Kd.at_int HR0.out x6_2 p184 q184
          have hw184_0 := hx184_0
          cases e184
          replace hx184_0 := (HB.out.cell (World.block_lt_of_cell? w _ hx184_0)).trans hx184_0
          replace p184 := eq_true p184
          replace q184 := eq_true q184
          have p185 : 0 ≤ (x6_2 : Int) := of_decide_eq_true (by first | (with_reducible assumption) | assumption)
          have q185 : x6_2 < (l1.length : Int) := of_decide_eq_true (by first | (with_reducible assumption) | assumption)
          obtain ⟨ad185, e185, hx185_0⟩ := Kd.at_int HR1.out x6_2 p185 q185
          have hw185_0 := hx185_0
          cases e185
          replace hx185_0 := (HB.out.cell (World.block_lt_of_cell? w _ hx185_0)).trans hx185_0
          replace p185 := eq_true p185
          replace q185 := eq_true q185
          refine start_ (n := 13) (S := fun w' => w'.cell? (ad184.add (x6_2).toNat) = some (.int .i64 (rd l0 x6_2)) ∧ w'.cell? (ad185.add (x6_2).toNat) = some (.int .i64 (rd l1 x6_2))) (ds := []) #[F,F,F,F,F,F,F,F,F,F,F,F,F] (by kernel_rfl) rfl rfl ⟨((HB.out.cell (World.block_lt_of_cell? w _ hw184_0)).trans hw184_0), ((HB.out.cell (World.block_lt_of_cell? w _ hw185_0)).trans hw185_0)⟩ (fun hHeld => ?_); refine with_tabW paybooklaw05_PackApart.tab7 paybooklaw05_PackApart.bits7 (fun HT_ HW_ => ?_)
          generalize wr.drew = w19 at HB hx184_0 hx185_0 hHeld ⊢
          refine pure_ (i := 0) (N := some 33) (v := ?_) (a' := ?_) #[T,F,F,F,F,F,F,F,F,F,F,F,F] rfl rfl (any_of HT_.out (by kernel_rfl)) (fun _ _ _ h => h) (Or.inl ⟨by rfl, ?_⟩) ?_ ?_
          rotate_left
          ·intro w'
           go_simp
           with_reducible rfl
          rotate_left
          ·simp only [Act.put, List.setIfInBounds_toArray, List.set_cons_zero, List.set_cons_succ, i64_w, i32_w]
           rfl
          refine pure_ (i := 1) (N := some 34) (v := ?_) (a' := ?_) #[T,T,F,F,F,F,F,F,F,F,F,F,F] rfl rfl (any_of HT_.out (by kernel_rfl)) (fun _ _ _ h => h) (Or.inl ⟨by rfl, ?_⟩) ?_ ?_
          rotate_left
          ·intro w'
           go_simp
           with_reducible rfl
          rotate_left
          ·simp only [Act.put, List.setIfInBounds_toArray, List.set_cons_zero, List.set_cons_succ, i64_w, i32_w]
           rfl
          refine pure_ (i := 2) (N := some 35) (v := ?_) (a' := ?_) #[T,T,T,F,F,F,F,F,F,F,F,F,F] rfl rfl (any_of HT_.out (by kernel_rfl)) (fun _ _ _ h => h) (Or.inl ⟨by rfl, ?_⟩) ?_ ?_
          rotate_left
          ·intro w'
           go_simp
           with_reducible rfl
          rotate_left
          ·simp only [Act.put, List.setIfInBounds_toArray, List.set_cons_zero, List.set_cons_succ, i64_w, i32_w]
           rfl
          refine pure_ (i := 3) (N := some 36) (v := ?_) (a' := ?_) #[T,T,T,T,F,F,F,F,F,F,F,F,F] rfl rfl (any_of HT_.out (by kernel_rfl)) (fun _ _ _ h => h) (Or.inl ⟨by rfl, ?_⟩) ?_ ?_
          rotate_left
          ·intro w'
           go_simp
           with_reducible rfl
          rotate_left
          ·simp only [Act.put, List.setIfInBounds_toArray, List.set_cons_zero, List.set_cons_succ, i64_w, i32_w]
           rfl
          refine pure_ (i := 4) (N := some 37) (v := ?_) (a' := ?_) #[T,T,T,T,T,F,F,F,F,F,F,F,F] rfl rfl (any_of HT_.out (by kernel_rfl)) (fun _ _ _ h => h) (Or.inl ⟨by rfl, ?_⟩) ?_ ?_
          rotate_left
          ·intro w'
           go_simp
           with_reducible rfl
          rotate_left
          ·simp only [Act.put, List.setIfInBounds_toArray, List.set_cons_zero, List.set_cons_succ, i64_w, i32_w]
           rfl
          refine pure_ (i := 6) (N := some 39) (v := ?_) (a' := ?_) #[T,T,T,T,T,F,T,F,F,F,F,F,F] rfl rfl (any_of HT_.out (by kernel_rfl)) (fun _ _ _ h => h) (Or.inl ⟨by rfl, ?_⟩) ?_ ?_
          rotate_left
          ·intro w'
           go_simp
           with_reducible rfl
          rotate_left
          ·simp only [Act.put, List.setIfInBounds_toArray, List.set_cons_zero, List.set_cons_succ, i64_w, i32_w]
           rfl
          refine pure_ (i := 7) (N := some 40) (v := ?_) (a' := ?_) #[T,T,T,T,T,F,T,T,F,F,F,F,F] rfl rfl (any_of HT_.out (by kernel_rfl)) (fun _ _ _ h => h) (Or.inl ⟨by rfl, ?_⟩) ?_ ?_
          rotate_left
          ·intro w'
           go_simp
           with_reducible rfl
          rotate_left
          ·simp only [Act.put, List.setIfInBounds_toArray, List.set_cons_zero, List.set_cons_succ, i64_w, i32_w]
           rfl
          refine pure_ (i := 8) (N := some 41) (v := ?_) (a' := ?_) #[T,T,T,T,T,F,T,T,T,F,F,F,F] rfl rfl (any_of HT_.out (by kernel_rfl)) (fun _ _ _ h => h) (Or.inl ⟨by rfl, ?_⟩) ?_ ?_
          rotate_left
          ·intro w'
           go_simp
           with_reducible rfl
          rotate_left
          ·simp only [Act.put, List.setIfInBounds_toArray, List.set_cons_zero, List.set_cons_succ, i64_w, i32_w]
           rfl
          refine take_ (i := 5) (N := some 38) (v := ?_) (a' := ?_) #[T,T,T,T,T,T,T,T,T,F,F,F,F] rfl rfl (take_ofW HT_.out HW_.out (by kernel_rfl)) (fun _ _ _ h => h) (Or.inl ⟨by rfl, ?_⟩) hHeld ?_ ?_
          rotate_left
          ·rintro w' ⟨s0, s1⟩
           go_simp
           with_reducible rfl
          rotate_left
          ·simp only [Act.put, List.setIfInBounds_toArray, List.set_cons_zero, List.set_cons_succ, i64_w, i32_w]
           rfl
          refine take_ (i := 9) (N := some 42) (v := ?_) (a' := ?_) #[T,T,T,T,T,T,T,T,T,T,F,F,F] rfl rfl (take_ofW HT_.out HW_.out (by kernel_rfl)) (fun _ _ _ h => h) (Or.inl ⟨by rfl, ?_⟩) hHeld ?_ ?_
          rotate_left
          ·rintro w' ⟨s0, s1⟩
           go_simp
           with_reducible rfl
          rotate_left
          ·simp only [Act.put, List.setIfInBounds_toArray, List.set_cons_zero, List.set_cons_succ, i64_w, i32_w]
           rfl
          refine pure_ (i := 10) (N := some 43) (v := ?_) (a' := ?_) #[T,T,T,T,T,T,T,T,T,T,T,F,F] rfl rfl (any_of HT_.out (by kernel_rfl)) (fun _ _ _ h => h) (Or.inl ⟨by rfl, ?_⟩) ?_ ?_
          rotate_left
          ·intro w'
           go_simp
           with_reducible rfl
          rotate_left
          ·simp only [Act.put, List.setIfInBounds_toArray, List.set_cons_zero, List.set_cons_succ, i64_w, i32_w]
           rfl
          refine pure_ (i := 11) (N := some 44) (v := ?_) (a' := ?_) #[T,T,T,T,T,T,T,T,T,T,T,T,F] rfl rfl (any_of HT_.out (by kernel_rfl)) (fun _ _ _ h => h) (Or.inl ⟨by rfl, ?_⟩) ?_ ?_
          rotate_left
          ·intro w'
           go_simp
           with_reducible rfl
          rotate_left
          ·simp only [Act.put, List.setIfInBounds_toArray, List.set_cons_zero, List.set_cons_succ, i64_w, i32_w]
           rfl
          refine pure_ (i := 12) (N := some 5) (v := ?_) (a' := ?_) #[T,T,T,T,T,T,T,T,T,T,T,T,T] rfl rfl (any_of HT_.out (by kernel_rfl)) (fun _ _ _ h => h) (Or.inl ⟨by rfl, ?_⟩) ?_ ?_
          rotate_left
          ·intro w'
           go_simp
           with_reducible rfl
          rotate_left
          ·simp only [Act.put, List.setIfInBounds_toArray, List.set_cons_zero, List.set_cons_succ, i64_w, i32_w]
           rfl
          refine done_ (done_of HT_.out (by kernel_rfl)) ?_
          try go_wp2
          go_roundg k2
          case measure => have := HJ2.out; have := HK2.out; omega
          case rel => exact ⟨(((rd l0 x6_2) == (rd l1 x6_2))), (wrap64 (x6_2 + 1)), (by first | rfl | (simp; done) | (simp [*]; done)), (by first | rfl | (simp; done) | (simp [*]; done)), H', ⟨by have := HJ2.out; have := HK2.out; omega⟩, ⟨by repeat (first | (with_reducible first | exact HB.out | apply below_alloc | apply pw_below_drewN | apply below_drew1) | exact HB.out)⟩⟩
         ·rw [if_neg c18] at H
          exact absurd H (by simp)
        ·rw [if_neg c17] at H
         exact absurd H (by simp)
       ·replace c16 := Bool.eq_false_iff.mpr c16
        subst c16
        have H1 : (paybooklaw05_PackApart.l0 k2 l0 l1 false (wrap64 (x6_2 + 1))) = some true := by rw [if_neg (show ¬ (false = true) by decide)] at H; try exact H
        clear H
        have H := H1
        clear H1
        have H' := Aside0.mk H
        clear H
        try go_wp2
        have n0_ := Aside0.mk (below_drew1 HB.out)
        clear HB
        have HB := n0_
        clear n0_
        refine start_ (n := 13) (S := fun w' => True) (ds := []) #[F,F,F,F,F,F,F,F,F,F,F,F,F] (by kernel_rfl) rfl rfl trivial (fun hHeld => ?_); refine with_tabW paybooklaw05_PackApart.tab7 paybooklaw05_PackApart.bits7 (fun HT_ HW_ => ?_)
        generalize wr.drew = w20 at HB hHeld ⊢
        refine pure_ (i := 0) (N := some 33) (v := ?_) (a' := ?_) #[T,F,F,F,F,F,F,F,F,F,F,F,F] rfl rfl (any_of HT_.out (by kernel_rfl)) (fun _ _ _ h => h) (Or.inl ⟨by rfl, ?_⟩) ?_ ?_
        rotate_left
        ·intro w'
         go_simp
         with_reducible rfl
        rotate_left
        ·simp only [Act.put, List.setIfInBounds_toArray, List.set_cons_zero, List.set_cons_succ, i64_w, i32_w]
         rfl
        refine pure_ (i := 1) (N := some 34) (v := ?_) (a' := ?_) #[T,T,F,F,F,F,F,F,F,F,F,F,F] rfl rfl (any_of HT_.out (by kernel_rfl)) (fun _ _ _ h => h) (Or.inl ⟨by rfl, ?_⟩) ?_ ?_
        rotate_left
        ·intro w'
         go_simp
         with_reducible rfl
        rotate_left
        ·simp only [Act.put, List.setIfInBounds_toArray, List.set_cons_zero, List.set_cons_succ, i64_w, i32_w]
         rfl
        refine pure_ (i := 2) (N := some 35) (v := undef) (a' := ?_) #[T,T,T,F,F,F,F,F,F,F,F,F,F] rfl rfl (any_of HT_.out (by kernel_rfl)) (fun _ _ _ h => h) (Or.inr ⟨by rfl, rfl⟩) ?_ ?_
        rotate_left
        ·simp only [Act.put, List.setIfInBounds_toArray, List.set_cons_zero, List.set_cons_succ, i64_w, i32_w]
         rfl
        refine pure_ (i := 3) (N := some 36) (v := undef) (a' := ?_) #[T,T,T,T,F,F,F,F,F,F,F,F,F] rfl rfl (any_of HT_.out (by kernel_rfl)) (fun _ _ _ h => h) (Or.inr ⟨by rfl, rfl⟩) ?_ ?_
        rotate_left
        ·simp only [Act.put, List.setIfInBounds_toArray, List.set_cons_zero, List.set_cons_succ, i64_w, i32_w]
         rfl
        refine pure_ (i := 4) (N := some 37) (v := undef) (a' := ?_) #[T,T,T,T,T,F,F,F,F,F,F,F,F] rfl rfl (any_of HT_.out (by kernel_rfl)) (fun _ _ _ h => h) (Or.inr ⟨by rfl, rfl⟩) ?_ ?_
        rotate_left
        ·simp only [Act.put, List.setIfInBounds_toArray, List.set_cons_zero, List.set_cons_succ, i64_w, i32_w]
         rfl
        refine pure_ (i := 5) (N := some 38) (v := undef) (a' := ?_) #[T,T,T,T,T,T,F,F,F,F,F,F,F] rfl rfl (any_of HT_.out (by kernel_rfl)) (fun _ _ _ h => h) (Or.inr ⟨by rfl, rfl⟩) ?_ ?_
        rotate_left
        ·simp only [Act.put, List.setIfInBounds_toArray, List.set_cons_zero, List.set_cons_succ, i64_w, i32_w]
         rfl
        refine pure_ (i := 6) (N := some 39) (v := undef) (a' := ?_) #[T,T,T,T,T,T,T,F,F,F,F,F,F] rfl rfl (any_of HT_.out (by kernel_rfl)) (fun _ _ _ h => h) (Or.inr ⟨by rfl, rfl⟩) ?_ ?_
        rotate_left
        ·simp only [Act.put, List.setIfInBounds_toArray, List.set_cons_zero, List.set_cons_succ, i64_w, i32_w]
         rfl
        refine pure_ (i := 7) (N := some 40) (v := undef) (a' := ?_) #[T,T,T,T,T,T,T,T,F,F,F,F,F] rfl rfl (any_of HT_.out (by kernel_rfl)) (fun _ _ _ h => h) (Or.inr ⟨by rfl, rfl⟩) ?_ ?_
        rotate_left
        ·simp only [Act.put, List.setIfInBounds_toArray, List.set_cons_zero, List.set_cons_succ, i64_w, i32_w]
         rfl
        refine pure_ (i := 8) (N := some 41) (v := undef) (a' := ?_) #[T,T,T,T,T,T,T,T,T,F,F,F,F] rfl rfl (any_of HT_.out (by kernel_rfl)) (fun _ _ _ h => h) (Or.inr ⟨by rfl, rfl⟩) ?_ ?_
        rotate_left
        ·simp only [Act.put, List.setIfInBounds_toArray, List.set_cons_zero, List.set_cons_succ, i64_w, i32_w]
         rfl
        refine pure_ (i := 9) (N := some 42) (v := undef) (a' := ?_) #[T,T,T,T,T,T,T,T,T,T,F,F,F] rfl rfl (any_of HT_.out (by kernel_rfl)) (fun _ _ _ h => h) (Or.inr ⟨by rfl, rfl⟩) ?_ ?_
        rotate_left
        ·simp only [Act.put, List.setIfInBounds_toArray, List.set_cons_zero, List.set_cons_succ, i64_w, i32_w]
         rfl
        refine pure_ (i := 10) (N := some 43) (v := undef) (a' := ?_) #[T,T,T,T,T,T,T,T,T,T,T,F,F] rfl rfl (any_of HT_.out (by kernel_rfl)) (fun _ _ _ h => h) (Or.inr ⟨by rfl, rfl⟩) ?_ ?_
        rotate_left
        ·simp only [Act.put, List.setIfInBounds_toArray, List.set_cons_zero, List.set_cons_succ, i64_w, i32_w]
         rfl
        refine pure_ (i := 11) (N := some 44) (v := ?_) (a' := ?_) #[T,T,T,T,T,T,T,T,T,T,T,T,F] rfl rfl (any_of HT_.out (by kernel_rfl)) (fun _ _ _ h => h) (Or.inl ⟨by rfl, ?_⟩) ?_ ?_
        rotate_left
        ·intro w'
         go_simp
         with_reducible rfl
        rotate_left
        ·simp only [Act.put, List.setIfInBounds_toArray, List.set_cons_zero, List.set_cons_succ, i64_w, i32_w]
         rfl
        refine pure_ (i := 12) (N := some 5) (v := ?_) (a' := ?_) #[T,T,T,T,T,T,T,T,T,T,T,T,T] rfl rfl (any_of HT_.out (by kernel_rfl)) (fun _ _ _ h => h) (Or.inl ⟨by rfl, ?_⟩) ?_ ?_
        rotate_left
        ·intro w'
         go_simp
         with_reducible rfl
        rotate_left
        ·simp only [Act.put, List.setIfInBounds_toArray, List.set_cons_zero, List.set_cons_succ, i64_w, i32_w]
         rfl
        refine done_ (done_of HT_.out (by kernel_rfl)) ?_
        try go_wp2
        go_roundg k2
        case measure => have := HJ2.out; have := HK2.out; omega
        case rel => exact ⟨(false), (wrap64 (x6_2 + 1)), (by first | rfl | (simp; done) | (simp [*]; done)), (by first | rfl | (simp; done) | (simp [*]; done)), H', ⟨by have := HJ2.out; have := HK2.out; omega⟩, ⟨by repeat (first | (with_reducible first | exact HB.out | apply below_alloc | apply pw_below_drewN | apply below_drew1) | exact HB.out)⟩⟩
      ·rw [if_neg c15] at H
       have c15b0 : decide (x6_2 < (l0.length : Int)) = false := decide_eq_false c15
       clear c15
       replace H := Option.bind_eq_some_iff.mp H
       obtain ⟨⟨t186, t189⟩, A210, H⟩ := H
       replace H : ((pack_Box_Put.f k2 t186 t189 l0).bind fun bt191 => ((pack_Box_Done.f bt191.1 bt191.2).bind fun bt195 => ((pack_New.f).bind fun bt202 => ((pack_Box_Put.f k2 bt202.1 bt202.2 l1).bind fun bt207 => ((pack_Box_Done.f bt207.1 bt207.2).bind fun bt211 => (some (((strOfNums bt195.1).toList == (strOfNums bt211.1).toList) == x5_2))))))) = some true := H
       have A21 := Aside0.mk A210
       clear A210
       replace H := Option.bind_eq_some_iff.mp H
       obtain ⟨⟨t191, t194⟩, A220, H⟩ := H
       replace H : ((pack_Box_Done.f t191 t194).bind fun bt195 => ((pack_New.f).bind fun bt202 => ((pack_Box_Put.f k2 bt202.1 bt202.2 l1).bind fun bt207 => ((pack_Box_Done.f bt207.1 bt207.2).bind fun bt211 => (some (((strOfNums bt195.1).toList == (strOfNums bt211.1).toList) == x5_2)))))) = some true := H
       have A22 := Aside0.mk A220
       clear A220
       replace H := Option.bind_eq_some_iff.mp H
       obtain ⟨⟨t195, t198, t201⟩, A230, H⟩ := H
       replace H : ((pack_New.f).bind fun bt202 => ((pack_Box_Put.f k2 bt202.1 bt202.2 l1).bind fun bt207 => ((pack_Box_Done.f bt207.1 bt207.2).bind fun bt211 => (some (((strOfNums t195).toList == (strOfNums bt211.1).toList) == x5_2))))) = some true := H
       have A23 := Aside0.mk A230
       clear A230
       replace H := Option.bind_eq_some_iff.mp H
       obtain ⟨⟨t202, t205⟩, A240, H⟩ := H
       replace H : ((pack_Box_Put.f k2 t202 t205 l1).bind fun bt207 => ((pack_Box_Done.f bt207.1 bt207.2).bind fun bt211 => (some (((strOfNums t195).toList == (strOfNums bt211.1).toList) == x5_2)))) = some true := H
       have A24 := Aside0.mk A240
       clear A240
       replace H := Option.bind_eq_some_iff.mp H
       obtain ⟨⟨t207, t210⟩, A250, H⟩ := H
       replace H : ((pack_Box_Done.f t207 t210).bind fun bt211 => (some (((strOfNums t195).toList == (strOfNums bt211.1).toList) == x5_2))) = some true := H
       have A25 := Aside0.mk A250
       clear A250
       replace H := Option.bind_eq_some_iff.mp H
       obtain ⟨⟨t211, t214, t217⟩, A260, H⟩ := H
       replace H : (some (((strOfNums t195).toList == (strOfNums t211).toList) == x5_2)) = some true := H
       have A26 := Aside0.mk A260
       clear A260
       have HT_ := Option.some.inj H
       clear H
       (try (have HT_z_ := HT_; simp only [beq_true, beq_false, true_beq, false_beq, Bool.not_eq_true', Bool.not_eq_false', Bool.not_true, Bool.not_false] at HT_z_))
       try go_wp2
       have n0_ := Aside0.mk (below_drew1 HB.out)
       clear HB
       have HB := n0_
       clear n0_
       refine start_ (n := 14) (S := fun w' => True) (ds := []) #[F,F,F,F,F,F,F,F,F,F,F,F,F,F] (by kernel_rfl) rfl rfl trivial (fun hHeld => ?_); refine with_tabW paybooklaw05_PackApart.tab8 paybooklaw05_PackApart.bits8 (fun HT_ HW_ => ?_)
       generalize wr.drew = w27 at HB hHeld ⊢
       refine pure_ (i := 1) (N := some 46) (v := ?_) (a' := ?_) #[F,T,F,F,F,F,F,F,F,F,F,F,F,F] rfl rfl (any_of HT_.out (by kernel_rfl)) (fun _ _ _ h => h) (Or.inl ⟨by rfl, ?_⟩) ?_ ?_
       rotate_left
       ·intro w'
        go_simp
        with_reducible rfl
       rotate_left
       ·simp only [Act.put, List.setIfInBounds_toArray, List.set_cons_zero, List.set_cons_succ, i64_w, i32_w]
        rfl
       refine pure_ (i := 6) (N := some 51) (v := ?_) (a' := ?_) #[F,T,F,F,F,F,T,F,F,F,F,F,F,F] rfl rfl (any_of HT_.out (by kernel_rfl)) (fun _ _ _ h => h) (Or.inl ⟨by rfl, ?_⟩) ?_ ?_
       rotate_left
       ·intro w'
        go_simp
        with_reducible rfl
       rotate_left
       ·simp only [Act.put, List.setIfInBounds_toArray, List.set_cons_zero, List.set_cons_succ, i64_w, i32_w]
        rfl
       refine pure_ (i := 11) (N := some 56) (v := ?_) (a' := ?_) #[F,T,F,F,F,F,T,F,F,F,F,T,F,F] rfl rfl (any_of HT_.out (by kernel_rfl)) (fun _ _ _ h => h) (Or.inl ⟨by rfl, ?_⟩) ?_ ?_
       rotate_left
       ·intro w'
        go_simp
        with_reducible rfl
       rotate_left
       ·simp only [Act.put, List.setIfInBounds_toArray, List.set_cons_zero, List.set_cons_succ, i64_w, i32_w]
        rfl
       refine one_ (i := 0) (N := some 45) #[T,T,F,F,F,F,T,F,F,F,F,T,F,F] rfl rfl (one_of HT_.out (by kernel_rfl)) (by decide) (fun K hK => ?_)
       refine goes_ Try.func11 (by kernel_rfl) rfl #[] (by rfl) rfl rfl (by (try simp only [List.map_toArray, List.map_cons, List.map_nil]); first | done | rfl | (simp only [List.length_drop, List.length_take]; rfl)) ?_
       with_reducible refine (pack_New.calls  t186 t189 _ A21.out).mono ?_
       rintro e w28 ⟨v187, gb190, rfl, ho0, hnb190, hnl190, hb⟩
       refine ⟨_, rfl, ?_⟩
       have n0_ := Aside0.mk (Kd.R_lower ho0 (below_size (by repeat (first | (with_reducible first | exact HB.out | apply below_alloc | apply pw_below_drewN | apply below_drew1) | exact HB.out))))
       have n1_ := Aside0.mk (hnb190)
       have n2_ := Aside0.mk ((Nat.le_trans (below_size (by repeat (first | (with_reducible first | exact HB.out | apply below_alloc | apply pw_below_drewN | apply below_drew1) | exact HB.out))) hnl190 : w.heap.size ≤ gb190))
       have n3_ := Aside0.mk ((Nat.le_trans (below_size (by repeat (first | (with_reducible first | exact HB.out | apply below_alloc | apply pw_below_drewN | apply below_drew1) | exact HB.out))) hnl190 : w.heap.size ≤ gb190))
       have n4_ := Aside0.mk (below_step (by repeat (first | (with_reducible first | exact HB.out | apply below_alloc | apply pw_below_drewN | apply below_drew1) | exact HB.out)) hb)
       clear HB
       have HO188 := n0_
       have BK190 := n1_
       have GW190 := n2_
       have GE190 := n3_
       have HB := n4_
       clear n0_ n1_ n2_ n3_ n4_
       (try clear hb)
       (try clear hb2)
       (try clear hk)
       (try clear hi)
       (try clear ho0)
       refine hK.out _ _ trivial (fun hHeld => ?_)
       clear hK K
       refine norm_ (a' := ?_) ?_ ?_
       rotate_left
       ·show Act.put _ (some 45) _ = _
        simp only [Act.put, List.setIfInBounds_toArray, List.set_cons_zero, List.set_cons_succ, i64_w, i32_w]
        rfl
       refine one_ (i := 2) (N := some 47) #[T,T,T,F,F,F,T,F,F,F,F,T,F,F] rfl rfl (one_of HT_.out (by kernel_rfl)) (by decide) (fun K hK => ?_)
       refine goes_ Try.func12 (by kernel_rfl) rfl #[.pointer (some ⟨gb190, 0, none⟩), .slice A0 l0.length c0] (by rfl) rfl rfl (by (try simp only [List.map_toArray, List.map_cons, List.map_nil]); first | done | rfl | (simp only [List.length_drop, List.length_take]; rfl)) ?_
       with_reducible refine (pack_Box_Put.calls k2 gb190 (fun k_ => some k_ = (v187 : Value).ownBlock) v187 t186 t189 _ _ l0 t191 t194 w _ ?side1 ?side2 ?side3 ?side4 ?side5 ?side6 A22.out).mono ?_
       (case side1 => repeat (first | (with_reducible first | exact HB.out | apply below_alloc | apply pw_below_drewN | apply below_drew1 | refine below_set ?_ GE190.out) | exact HB.out))
       (case side2 => exact (by (with_reducible repeat (first | refine blk_drewN ?_ _ | refine blk_drew ?_ | refine blk_alloc ?_ _)); exact BK190.out))
       (case side3 => exact GE190.out)
       (case side4 => exact Kd.R_tight rfl HO188.out)
       (case side5 => exact Kd.C_kept_came (Kd.heap_int .i64) HR0.out (by repeat (first | (with_reducible first | exact HB.out | apply below_alloc | apply pw_below_drewN | apply below_drew1 | refine below_set ?_ GE190.out) | exact HB.out)) (fun k_ hs_ => Or.elim hs_ (fun hs_ => (fun e_ => Kd.R_base HO188.out k_ e_.symm) hs_) (fun e_ => (by rw [e_]; exact GE190.out))))
       (case side6 => exact HC0.out)
       rintro e w29 ⟨v192, rfl, ho0, hi, hb, hkp⟩
       refine ⟨_, rfl, ?_⟩
       have n0_ := Aside0.mk (hi)
       have n1_ := Aside0.mk (Kd.R_mono (ok' := fun k_ => True) ho0 (fun k_ hk_ => trivial))
       have n2_ := Aside0.mk (hb)
       clear BK190
       clear HB
       clear HO188
       have BK190 := n0_
       have HO193 := n1_
       have HB := n2_
       clear n0_ n1_ n2_
       (try clear hb)
       (try clear hkp)
       (try clear hi)
       (try clear ho0)
       refine hK.out _ _ trivial (fun hHeld => ?_)
       clear hK K
       refine norm_ (a' := ?_) ?_ ?_
       rotate_left
       ·show Act.put _ (some 47) _ = _
        simp only [Act.put, List.setIfInBounds_toArray, List.set_cons_zero, List.set_cons_succ, i64_w, i32_w]
        rfl
       refine one_ (i := 3) (N := some 48) #[T,T,T,T,F,F,T,F,F,F,F,T,F,F] rfl rfl (one_of HT_.out (by kernel_rfl)) (by decide) (fun K hK => ?_)
       refine goes_ Try.func13 (by kernel_rfl) rfl #[.pointer (some ⟨gb190, 0, none⟩)] (by rfl) rfl rfl (by (try simp only [List.map_toArray, List.map_cons, List.map_nil]); first | done | rfl | (simp only [List.length_drop, List.length_take]; rfl)) ?_
       with_reducible refine (pack_Box_Done.calls gb190 (fun k_ => some k_ = (v192 : Value).ownBlock) v192 t191 t194 t195 t198 t201 w _ ?side1 ?side2 ?side3 ?side4 A23.out).mono ?_
       (case side1 => repeat (first | (with_reducible first | exact HB.out | apply below_alloc | apply pw_below_drewN | apply below_drew1 | refine below_set ?_ GE190.out) | exact HB.out))
       (case side2 => exact (by (with_reducible repeat (first | refine blk_drewN ?_ _ | refine blk_drew ?_ | refine blk_alloc ?_ _)); exact BK190.out))
       (case side3 => exact GE190.out)
       (case side4 => exact Kd.R_tight rfl HO193.out)
       rintro e w30 ⟨v196, v199, rfl, ho0, ho1, hi, hb, hkp⟩
       refine ⟨_, rfl, ?_⟩
       have n0_ := Aside0.mk (hi)
       have n1_ := Aside0.mk (Kd.R_mono (ok' := fun k_ => some k_ ≠ (v199 : Value).ownBlock) ho0 (fun k_ hk_ => hk_.2))
       have n2_ := Aside0.mk (Kd.R_mono (ok' := fun k_ => some k_ ≠ (v196 : Value).ownBlock) ho1 (fun k_ hk_ => hk_.2))
       have n3_ := Aside0.mk (hb)
       clear BK190
       clear HB
       clear HO193
       have BK190 := n0_
       have HO197 := n1_
       have HO200 := n2_
       have HB := n3_
       clear n0_ n1_ n2_ n3_
       (try clear hb)
       (try clear hkp)
       (try clear hi)
       (try clear ho0)
       (try clear ho1)
       refine hK.out _ _ trivial (fun hHeld => ?_)
       clear hK K
       refine norm_ (a' := ?_) ?_ ?_
       rotate_left
       ·show Act.put _ (some 48) _ = _
        simp only [Act.put, List.setIfInBounds_toArray, List.set_cons_zero, List.set_cons_succ, i64_w, i32_w]
        rfl
       refine join_ (σ := Value × Nat × Value × Value × Value) 3 #[T,T,T,T,T,T,T,T,T,T,F,T,F,F] (fun s_ => [(49, .string (strOfNums t195)), (50, .pointer (some ⟨s_.2.1, 0, none⟩)), (52, .pointer (some ⟨s_.2.1, 0, none⟩)), (53, s_.2.2.2.1), (54, .string (strOfNums t211))]) (fun s_ w' => (Kd.R (Kd.int .u8) 5 w' w.heap.size (fun k_ => some k_ ≠ (v199 : Value).ownBlock ∧ some k_ ≠ (s_.2.2.2.1 : Value).ownBlock ∧ some k_ ≠ (s_.2.2.2.2 : Value).ownBlock) v196 t195) ∧ (Kd.R (Kd.int .u8) 5 w' w.heap.size (fun k_ => some k_ ≠ (v196 : Value).ownBlock ∧ some k_ ≠ (s_.2.2.2.1 : Value).ownBlock ∧ some k_ ≠ (s_.2.2.2.2 : Value).ownBlock) v199 t198) ∧ (Kd.R (Kd.int .u8) 5 w' w.heap.size (fun k_ => some k_ ≠ (v196 : Value).ownBlock ∧ some k_ ≠ (v199 : Value).ownBlock ∧ some k_ ≠ (s_.2.2.2.2 : Value).ownBlock) s_.2.2.2.1 t211) ∧ (Kd.R (Kd.int .u8) 5 w' w.heap.size (fun k_ => some k_ ≠ (v196 : Value).ownBlock ∧ some k_ ≠ (v199 : Value).ownBlock ∧ some k_ ≠ (s_.2.2.2.1 : Value).ownBlock) s_.2.2.2.2 t214) ∧ (w'.heap[gb190]? = some (.cells #[v199, .int .i64 t201] 51 (0, 0))) ∧ (w'.heap[s_.2.1]? = some (.cells #[s_.2.2.2.2, .int .i64 t217] 51 (0, 0))) ∧ (w.heap.size ≤ gb190) ∧ (w.heap.size ≤ gb190) ∧ (s_.2.1 ≠ gb190) ∧ (gb190 ≠ s_.2.1) ∧ (w.heap.size ≤ s_.2.1) ∧ (w.heap.size ≤ s_.2.1) ∧ (Below w.heap.size w w')) ?_ ?_
       rotate_left
       ·intro hJ4_5_7_8_9
        refine join_ (σ := Value × Nat × Value × Value × Value) 4 #[T,T,T,T,T,T,T,T,T,F,F,T,F,F] (fun s_ => [(49, .string (strOfNums t195)), (50, .pointer (some ⟨s_.2.1, 0, none⟩)), (52, .pointer (some ⟨s_.2.1, 0, none⟩)), (53, s_.2.2.2.1)]) (fun s_ w' => (Kd.R (Kd.int .u8) 5 w' w.heap.size (fun k_ => some k_ ≠ (v199 : Value).ownBlock ∧ some k_ ≠ (s_.2.2.2.1 : Value).ownBlock ∧ some k_ ≠ (s_.2.2.2.2 : Value).ownBlock) v196 t195) ∧ (Kd.R (Kd.int .u8) 5 w' w.heap.size (fun k_ => some k_ ≠ (v196 : Value).ownBlock ∧ some k_ ≠ (s_.2.2.2.1 : Value).ownBlock ∧ some k_ ≠ (s_.2.2.2.2 : Value).ownBlock) v199 t198) ∧ (Kd.R (Kd.int .u8) 5 w' w.heap.size (fun k_ => some k_ ≠ (v196 : Value).ownBlock ∧ some k_ ≠ (v199 : Value).ownBlock ∧ some k_ ≠ (s_.2.2.2.2 : Value).ownBlock) s_.2.2.2.1 t211) ∧ (Kd.R (Kd.int .u8) 5 w' w.heap.size (fun k_ => some k_ ≠ (v196 : Value).ownBlock ∧ some k_ ≠ (v199 : Value).ownBlock ∧ some k_ ≠ (s_.2.2.2.1 : Value).ownBlock) s_.2.2.2.2 t214) ∧ (w'.heap[gb190]? = some (.cells #[v199, .int .i64 t201] 51 (0, 0))) ∧ (w'.heap[s_.2.1]? = some (.cells #[s_.2.2.2.2, .int .i64 t217] 51 (0, 0))) ∧ (w.heap.size ≤ gb190) ∧ (w.heap.size ≤ gb190) ∧ (s_.2.1 ≠ gb190) ∧ (gb190 ≠ s_.2.1) ∧ (w.heap.size ≤ s_.2.1) ∧ (w.heap.size ≤ s_.2.1) ∧ (Below w.heap.size w w')) ?_ ?_
        rotate_left
        ·intro hJ4_5_7_8
         refine join_ (σ := Value × Nat × Value × Value × Value) 4 #[T,T,T,T,F,T,T,T,T,T,F,T,F,F] (fun s_ => [(50, .pointer (some ⟨s_.2.1, 0, none⟩)), (52, .pointer (some ⟨s_.2.1, 0, none⟩)), (53, s_.2.2.2.1), (54, .string (strOfNums t211))]) (fun s_ w' => (Kd.R (Kd.int .u8) 5 w' w.heap.size (fun k_ => some k_ ≠ (v199 : Value).ownBlock ∧ some k_ ≠ (s_.2.2.2.1 : Value).ownBlock ∧ some k_ ≠ (s_.2.2.2.2 : Value).ownBlock) v196 t195) ∧ (Kd.R (Kd.int .u8) 5 w' w.heap.size (fun k_ => some k_ ≠ (v196 : Value).ownBlock ∧ some k_ ≠ (s_.2.2.2.1 : Value).ownBlock ∧ some k_ ≠ (s_.2.2.2.2 : Value).ownBlock) v199 t198) ∧ (Kd.R (Kd.int .u8) 5 w' w.heap.size (fun k_ => some k_ ≠ (v196 : Value).ownBlock ∧ some k_ ≠ (v199 : Value).ownBlock ∧ some k_ ≠ (s_.2.2.2.2 : Value).ownBlock) s_.2.2.2.1 t211) ∧ (Kd.R (Kd.int .u8) 5 w' w.heap.size (fun k_ => some k_ ≠ (v196 : Value).ownBlock ∧ some k_ ≠ (v199 : Value).ownBlock ∧ some k_ ≠ (s_.2.2.2.1 : Value).ownBlock) s_.2.2.2.2 t214) ∧ (w'.heap[gb190]? = some (.cells #[v199, .int .i64 t201] 51 (0, 0))) ∧ (w'.heap[s_.2.1]? = some (.cells #[s_.2.2.2.2, .int .i64 t217] 51 (0, 0))) ∧ (w.heap.size ≤ gb190) ∧ (w.heap.size ≤ gb190) ∧ (s_.2.1 ≠ gb190) ∧ (gb190 ≠ s_.2.1) ∧ (w.heap.size ≤ s_.2.1) ∧ (w.heap.size ≤ s_.2.1) ∧ (Below w.heap.size w w')) ?_ ?_
         rotate_left
         ·intro hJ5_7_8_9
          refine join_ (σ := Value × Nat × Value) 5 #[T,T,T,T,T,T,T,T,F,F,F,T,F,F] (fun s_ => [(49, .string (strOfNums t195)), (50, .pointer (some ⟨s_.2.1, 0, none⟩)), (52, .pointer (some ⟨s_.2.1, 0, none⟩))]) (fun s_ w' => (Kd.R (Kd.int .u8) 5 w' w.heap.size (fun k_ => some k_ ≠ (v199 : Value).ownBlock ∧ some k_ ≠ (s_.2.2 : Value).ownBlock) v196 t195) ∧ (Kd.R (Kd.int .u8) 5 w' w.heap.size (fun k_ => some k_ ≠ (v196 : Value).ownBlock ∧ some k_ ≠ (s_.2.2 : Value).ownBlock) v199 t198) ∧ (Kd.R (Kd.int .u8) 5 w' w.heap.size (fun k_ => some k_ ≠ (v196 : Value).ownBlock ∧ some k_ ≠ (v199 : Value).ownBlock) s_.2.2 t207) ∧ (w'.heap[gb190]? = some (.cells #[v199, .int .i64 t201] 51 (0, 0))) ∧ (w'.heap[s_.2.1]? = some (.cells #[s_.2.2, .int .i64 t210] 51 (0, 0))) ∧ (w.heap.size ≤ gb190) ∧ (w.heap.size ≤ gb190) ∧ (s_.2.1 ≠ gb190) ∧ (gb190 ≠ s_.2.1) ∧ (w.heap.size ≤ s_.2.1) ∧ (w.heap.size ≤ s_.2.1) ∧ (Below w.heap.size w w')) ?_ ?_
          rotate_left
          ·intro hJ4_5_7
           refine join_ (σ := Value × Nat × Value × Value × Value) 5 #[T,T,T,T,F,T,T,T,T,F,F,T,F,F] (fun s_ => [(50, .pointer (some ⟨s_.2.1, 0, none⟩)), (52, .pointer (some ⟨s_.2.1, 0, none⟩)), (53, s_.2.2.2.1)]) (fun s_ w' => (Kd.R (Kd.int .u8) 5 w' w.heap.size (fun k_ => some k_ ≠ (v199 : Value).ownBlock ∧ some k_ ≠ (s_.2.2.2.1 : Value).ownBlock ∧ some k_ ≠ (s_.2.2.2.2 : Value).ownBlock) v196 t195) ∧ (Kd.R (Kd.int .u8) 5 w' w.heap.size (fun k_ => some k_ ≠ (v196 : Value).ownBlock ∧ some k_ ≠ (s_.2.2.2.1 : Value).ownBlock ∧ some k_ ≠ (s_.2.2.2.2 : Value).ownBlock) v199 t198) ∧ (Kd.R (Kd.int .u8) 5 w' w.heap.size (fun k_ => some k_ ≠ (v196 : Value).ownBlock ∧ some k_ ≠ (v199 : Value).ownBlock ∧ some k_ ≠ (s_.2.2.2.2 : Value).ownBlock) s_.2.2.2.1 t211) ∧ (Kd.R (Kd.int .u8) 5 w' w.heap.size (fun k_ => some k_ ≠ (v196 : Value).ownBlock ∧ some k_ ≠ (v199 : Value).ownBlock ∧ some k_ ≠ (s_.2.2.2.1 : Value).ownBlock) s_.2.2.2.2 t214) ∧ (w'.heap[gb190]? = some (.cells #[v199, .int .i64 t201] 51 (0, 0))) ∧ (w'.heap[s_.2.1]? = some (.cells #[s_.2.2.2.2, .int .i64 t217] 51 (0, 0))) ∧ (w.heap.size ≤ gb190) ∧ (w.heap.size ≤ gb190) ∧ (s_.2.1 ≠ gb190) ∧ (gb190 ≠ s_.2.1) ∧ (w.heap.size ≤ s_.2.1) ∧ (w.heap.size ≤ s_.2.1) ∧ (Below w.heap.size w w')) ?_ ?_
           rotate_left
           ·intro hJ5_7_8
            refine join_ (σ := Value × Nat) 6 #[T,T,T,T,T,T,T,F,F,F,F,T,F,F] (fun s_ => [(49, .string (strOfNums t195)), (50, .pointer (some ⟨s_.2, 0, none⟩))]) (fun s_ w' => (Kd.R (Kd.int .u8) 5 w' w.heap.size (fun k_ => some k_ ≠ (v199 : Value).ownBlock ∧ some k_ ≠ (s_.1 : Value).ownBlock) v196 t195) ∧ (Kd.R (Kd.int .u8) 5 w' w.heap.size (fun k_ => some k_ ≠ (v196 : Value).ownBlock ∧ some k_ ≠ (s_.1 : Value).ownBlock) v199 t198) ∧ (Kd.R (Kd.int .u8) 5 w' w.heap.size (fun k_ => some k_ ≠ (v196 : Value).ownBlock ∧ some k_ ≠ (v199 : Value).ownBlock) s_.1 t202) ∧ (w'.heap[gb190]? = some (.cells #[v199, .int .i64 t201] 51 (0, 0))) ∧ (w'.heap[s_.2]? = some (.cells #[s_.1, .int .i64 t205] 51 (0, 0))) ∧ (w.heap.size ≤ gb190) ∧ (w.heap.size ≤ gb190) ∧ (s_.2 ≠ gb190) ∧ (gb190 ≠ s_.2) ∧ (w.heap.size ≤ s_.2) ∧ (w.heap.size ≤ s_.2) ∧ (Below w.heap.size w w')) ?_ ?_
            rotate_left
            ·intro hJ4_5
             refine join_ (σ := Value × Nat × Value) 6 #[T,T,T,T,F,T,T,T,F,F,F,T,F,F] (fun s_ => [(50, .pointer (some ⟨s_.2.1, 0, none⟩)), (52, .pointer (some ⟨s_.2.1, 0, none⟩))]) (fun s_ w' => (Kd.R (Kd.int .u8) 5 w' w.heap.size (fun k_ => some k_ ≠ (v199 : Value).ownBlock ∧ some k_ ≠ (s_.2.2 : Value).ownBlock) v196 t195) ∧ (Kd.R (Kd.int .u8) 5 w' w.heap.size (fun k_ => some k_ ≠ (v196 : Value).ownBlock ∧ some k_ ≠ (s_.2.2 : Value).ownBlock) v199 t198) ∧ (Kd.R (Kd.int .u8) 5 w' w.heap.size (fun k_ => some k_ ≠ (v196 : Value).ownBlock ∧ some k_ ≠ (v199 : Value).ownBlock) s_.2.2 t207) ∧ (w'.heap[gb190]? = some (.cells #[v199, .int .i64 t201] 51 (0, 0))) ∧ (w'.heap[s_.2.1]? = some (.cells #[s_.2.2, .int .i64 t210] 51 (0, 0))) ∧ (w.heap.size ≤ gb190) ∧ (w.heap.size ≤ gb190) ∧ (s_.2.1 ≠ gb190) ∧ (gb190 ≠ s_.2.1) ∧ (w.heap.size ≤ s_.2.1) ∧ (w.heap.size ≤ s_.2.1) ∧ (Below w.heap.size w w')) ?_ ?_
             rotate_left
             ·intro hJ5_7
              refine join_ (σ := Unit) 7 #[T,T,T,T,T,F,T,F,F,F,F,T,F,F] (fun s_ => [(49, .string (strOfNums t195))]) (fun s_ w' => (Kd.R (Kd.int .u8) 5 w' w.heap.size (fun k_ => some k_ ≠ (v199 : Value).ownBlock) v196 t195) ∧ (Kd.R (Kd.int .u8) 5 w' w.heap.size (fun k_ => some k_ ≠ (v196 : Value).ownBlock) v199 t198) ∧ (w'.heap[gb190]? = some (.cells #[v199, .int .i64 t201] 51 (0, 0))) ∧ (w.heap.size ≤ gb190) ∧ (w.heap.size ≤ gb190) ∧ (Below w.heap.size w w')) ?_ ?_
              rotate_left
              ·intro hJ4
               refine join_ (σ := Value × Nat) 7 #[T,T,T,T,F,T,T,F,F,F,F,T,F,F] (fun s_ => [(50, .pointer (some ⟨s_.2, 0, none⟩))]) (fun s_ w' => (Kd.R (Kd.int .u8) 5 w' w.heap.size (fun k_ => some k_ ≠ (v199 : Value).ownBlock ∧ some k_ ≠ (s_.1 : Value).ownBlock) v196 t195) ∧ (Kd.R (Kd.int .u8) 5 w' w.heap.size (fun k_ => some k_ ≠ (v196 : Value).ownBlock ∧ some k_ ≠ (s_.1 : Value).ownBlock) v199 t198) ∧ (Kd.R (Kd.int .u8) 5 w' w.heap.size (fun k_ => some k_ ≠ (v196 : Value).ownBlock ∧ some k_ ≠ (v199 : Value).ownBlock) s_.1 t202) ∧ (w'.heap[gb190]? = some (.cells #[v199, .int .i64 t201] 51 (0, 0))) ∧ (w'.heap[s_.2]? = some (.cells #[s_.1, .int .i64 t205] 51 (0, 0))) ∧ (w.heap.size ≤ gb190) ∧ (w.heap.size ≤ gb190) ∧ (s_.2 ≠ gb190) ∧ (gb190 ≠ s_.2) ∧ (w.heap.size ≤ s_.2) ∧ (w.heap.size ≤ s_.2) ∧ (Below w.heap.size w w')) ?_ ?_
               rotate_left
               ·intro hJ5
                refine two_ (i := 4) (j := 5) (Ni := some 49) (Nj := some 50) #[T,T,T,T,T,F,T,F,F,F,F,T,F,F] #[T,T,T,T,F,T,T,F,F,F,F,T,F,F] rfl rfl rfl rfl (two_of HT_.out (by kernel_rfl)) (by decide) (by decide) (fun K hK => ?_) (fun K hK => ?_)
                ·skip
                 have hcv31 := own_string (P := Try.prog) Try.underlying24 Try.underlying5 Try.underlying9 (Kd.own_of_R HO197.out)
                 refine value_ (w1 := ?_) (v := ?_) (by rfl) rfl ?_ ?_
                 rotate_left 2
                 ·go_simp
                  constructor
                  ·rfl
                  ·rfl
                 clear hcv31
                 refine hK.out _ _ trivial (fun hHeld => ?_)
                 clear hK K
                 refine norm_ (a' := ?_) ?_ ?_
                 rotate_left
                 ·show Act.put _ (some 49) _ = _
                  simp only [Act.put, List.setIfInBounds_toArray, List.set_cons_zero, List.set_cons_succ, i64_w, i32_w]
                  rfl
                 exact norm_ (by first | (simp only [putAll, Act.put, List.setIfInBounds_toArray, List.set_cons_zero, List.set_cons_succ]; done) | (simp only [putAll, Act.put, List.setIfInBounds_toArray, List.set_cons_zero, List.set_cons_succ]; rfl)) (hJ4 () _ ⟨(by (with_reducible repeat (first | apply Kd.R_alloc | apply Kd.R_drewN | apply Kd.R_drew)); exact HO197.out), (by (with_reducible repeat (first | apply Kd.R_alloc | apply Kd.R_drewN | apply Kd.R_drew)); exact HO200.out), (by (with_reducible repeat (first | refine blk_drewN ?_ _ | refine blk_drew ?_ | refine blk_alloc ?_ _)); exact BK190.out), GW190.out, GE190.out, (by repeat (first | (with_reducible first | exact HB.out | apply below_alloc | apply pw_below_drewN | apply below_drew1 | refine below_set ?_ GE190.out) | exact HB.out))⟩)
                ·skip
                 refine goes_ Try.func11 (by kernel_rfl) rfl #[] (by rfl) rfl rfl (by (try simp only [List.map_toArray, List.map_cons, List.map_nil]); first | done | rfl | (simp only [List.length_drop, List.length_take]; rfl)) ?_
                 with_reducible refine (pack_New.calls  t202 t205 _ A24.out).mono ?_
                 rintro e w31 ⟨v203, gb206, rfl, ho0, hnb206, hnl206, hb⟩
                 refine ⟨_, rfl, ?_⟩
                 have n0_ := Aside0.mk (Kd.R_elder' (by (with_reducible repeat (first | apply Kd.R_alloc | apply Kd.R_drewN | apply Kd.R_drew)); exact HO197.out) (Kd.R_base ho0) hb)
                 have n1_ := Aside0.mk (Kd.R_elder' (by (with_reducible repeat (first | apply Kd.R_alloc | apply Kd.R_drewN | apply Kd.R_drew)); exact HO200.out) (Kd.R_base ho0) hb)
                 have n2_ := Aside0.mk (Kd.R_lower (Kd.R_new' (Kd.R_new' ho0 (Kd.R_lt (by (with_reducible repeat (first | apply Kd.R_alloc | apply Kd.R_drewN | apply Kd.R_drew)); exact HO197.out))) (Kd.R_lt (by (with_reducible repeat (first | apply Kd.R_alloc | apply Kd.R_drewN | apply Kd.R_drew)); exact HO200.out))) (below_size (by repeat (first | (with_reducible first | exact HB.out | apply below_alloc | apply pw_below_drewN | apply below_drew1 | refine below_set ?_ GE190.out) | exact HB.out))))
                 have n3_ := Aside0.mk (blk_below (g := gb190) (o := .cells #[v199, .int .i64 t201] 51 (0, 0)) (by (with_reducible repeat (first | refine blk_drewN ?_ _ | refine blk_drew ?_ | refine blk_alloc ?_ _)); exact BK190.out) hb)
                 have n4_ := Aside0.mk (hnb206)
                 have n5_ := Aside0.mk ((Nat.le_trans (below_size (by repeat (first | (with_reducible first | exact HB.out | apply below_alloc | apply pw_below_drewN | apply below_drew1 | refine below_set ?_ GE190.out) | exact HB.out))) hnl206 : w.heap.size ≤ gb206))
                 have n6_ := Aside0.mk ((Nat.le_trans (below_size (by repeat (first | (with_reducible first | exact HB.out | apply below_alloc | apply pw_below_drewN | apply below_drew1 | refine below_set ?_ GE190.out) | exact HB.out))) hnl206 : w.heap.size ≤ gb206))
                 have n7_ := Aside0.mk ((Nat.ne_of_lt (Nat.lt_of_lt_of_le (blk_lt (g := gb190) (o := .cells #[v199, .int .i64 t201] 51 (0, 0)) (by (with_reducible repeat (first | refine blk_drewN ?_ _ | refine blk_drew ?_ | refine blk_alloc ?_ _)); exact BK190.out)) hnl206) : gb190 ≠ gb206))
                 have n8_ := Aside0.mk ((Nat.ne_of_gt (Nat.lt_of_lt_of_le (blk_lt (g := gb190) (o := .cells #[v199, .int .i64 t201] 51 (0, 0)) (by (with_reducible repeat (first | refine blk_drewN ?_ _ | refine blk_drew ?_ | refine blk_alloc ?_ _)); exact BK190.out)) hnl206) : gb206 ≠ gb190))
                 have n9_ := Aside0.mk (below_step (by repeat (first | (with_reducible first | exact HB.out | apply below_alloc | apply pw_below_drewN | apply below_drew1 | refine below_set ?_ GE190.out) | exact HB.out)) hb)
                 clear HO197
                 clear HO200
                 clear BK190
                 clear HB
                 have HO197 := n0_
                 have HO200 := n1_
                 have HO204 := n2_
                 have BK190 := n3_
                 have BK206 := n4_
                 have GW206 := n5_
                 have GE206 := n6_
                 have NB190_206 := n7_
                 have NB206_190 := n8_
                 have HB := n9_
                 clear n0_ n1_ n2_ n3_ n4_ n5_ n6_ n7_ n8_ n9_
                 (try clear hb)
                 (try clear hb2)
                 (try clear hk)
                 (try clear hi)
                 (try clear ho0)
                 refine hK.out _ _ trivial (fun hHeld => ?_)
                 clear hK K
                 refine norm_ (a' := ?_) ?_ ?_
                 rotate_left
                 ·show Act.put _ (some 50) _ = _
                  simp only [Act.put, List.setIfInBounds_toArray, List.set_cons_zero, List.set_cons_succ, i64_w, i32_w]
                  rfl
                 exact norm_ (by first | (simp only [putAll, Act.put, List.setIfInBounds_toArray, List.set_cons_zero, List.set_cons_succ]; done) | (simp only [putAll, Act.put, List.setIfInBounds_toArray, List.set_cons_zero, List.set_cons_succ]; rfl)) (hJ5 (v203, gb206) _ ⟨(by (with_reducible repeat (first | apply Kd.R_alloc | apply Kd.R_drewN | apply Kd.R_drew)); exact HO197.out), (by (with_reducible repeat (first | apply Kd.R_alloc | apply Kd.R_drewN | apply Kd.R_drew)); exact HO200.out), (by (with_reducible repeat (first | apply Kd.R_alloc | apply Kd.R_drewN | apply Kd.R_drew)); exact Kd.R_mono HO204.out (fun _ hk => ⟨hk.1.2, hk.2⟩)), (by (with_reducible repeat (first | refine blk_drewN ?_ _ | refine blk_drew ?_ | refine blk_alloc ?_ _)); exact BK190.out), (by (with_reducible repeat (first | refine blk_drewN ?_ _ | refine blk_drew ?_ | refine blk_alloc ?_ _)); exact BK206.out), GW190.out, GE190.out, NB206_190.out, NB190_206.out, GW206.out, GE206.out, (by repeat (first | (with_reducible first | exact HB.out | apply below_alloc | apply pw_below_drewN | apply below_drew1 | refine below_set ?_ GE190.out | refine below_set ?_ GE206.out) | exact HB.out))⟩)
               ·skip
                rintro ⟨v203, gb206⟩ w32 ⟨h0_, h1_, h2_, h3_, h4_, h5_, h6_, h7_, h8_, h9_, h10_, h11_⟩
                have n0_ : Aside0 (Kd.R (Kd.int .u8) 5 w32 w.heap.size (fun k_ => some k_ ≠ (v199 : Value).ownBlock ∧ some k_ ≠ (v203 : Value).ownBlock) v196 t195) := ⟨h0_⟩
                have n1_ : Aside0 (Kd.R (Kd.int .u8) 5 w32 w.heap.size (fun k_ => some k_ ≠ (v196 : Value).ownBlock ∧ some k_ ≠ (v203 : Value).ownBlock) v199 t198) := ⟨h1_⟩
                have n2_ : Aside0 (Kd.R (Kd.int .u8) 5 w32 w.heap.size (fun k_ => some k_ ≠ (v196 : Value).ownBlock ∧ some k_ ≠ (v199 : Value).ownBlock) v203 t202) := ⟨h2_⟩
                have n3_ : Aside0 (w32.heap[gb190]? = some (.cells #[v199, .int .i64 t201] 51 (0, 0))) := ⟨h3_⟩
                have n4_ : Aside0 (w32.heap[gb206]? = some (.cells #[v203, .int .i64 t205] 51 (0, 0))) := ⟨h4_⟩
                have n5_ : Aside0 (w.heap.size ≤ gb190) := ⟨h5_⟩
                have n6_ : Aside0 (w.heap.size ≤ gb190) := ⟨h6_⟩
                have n7_ : Aside0 (gb206 ≠ gb190) := ⟨h7_⟩
                have n8_ : Aside0 (gb190 ≠ gb206) := ⟨h8_⟩
                have n9_ : Aside0 (w.heap.size ≤ gb206) := ⟨h9_⟩
                have n10_ : Aside0 (w.heap.size ≤ gb206) := ⟨h10_⟩
                have n11_ : Aside0 (Below w.heap.size w w32) := ⟨h11_⟩
                clear HB
                clear h0_ h1_ h2_ h3_ h4_ h5_ h6_ h7_ h8_ h9_ h10_ h11_
                have HO197 := n0_
                have HO200 := n1_
                have HO204 := n2_
                have BK190 := n3_
                have BK206 := n4_
                have GW190 := n5_
                have GE190 := n6_
                have NB206_190 := n7_
                have NB190_206 := n8_
                have GW206 := n9_
                have GE206 := n10_
                have HB := n11_
                clear n0_ n1_ n2_ n3_ n4_ n5_ n6_ n7_ n8_ n9_ n10_ n11_
                have hHeld := trivial
                refine norm_ (a' := ?_) ?_ ?_
                rotate_left
                ·simp only [putAll, Act.put, List.setIfInBounds_toArray, List.set_cons_zero, List.set_cons_succ]
                 rfl
                refine two_ (i := 4) (j := 7) (Ni := some 49) (Nj := some 52) #[T,T,T,T,T,T,T,F,F,F,F,T,F,F] #[T,T,T,T,F,T,T,T,F,F,F,T,F,F] rfl rfl rfl rfl (two_of HT_.out (by kernel_rfl)) (by decide) (by decide) (fun K hK => ?_) (fun K hK => ?_)
                ·skip
                 have hcv33 := own_string (P := Try.prog) Try.underlying24 Try.underlying5 Try.underlying9 (Kd.own_of_R HO197.out)
                 refine value_ (w1 := ?_) (v := ?_) (by rfl) rfl ?_ ?_
                 rotate_left 2
                 ·go_simp
                  constructor
                  ·rfl
                  ·rfl
                 clear hcv33
                 refine hK.out _ _ trivial (fun hHeld => ?_)
                 clear hK K
                 refine norm_ (a' := ?_) ?_ ?_
                 rotate_left
                 ·show Act.put _ (some 49) _ = _
                  simp only [Act.put, List.setIfInBounds_toArray, List.set_cons_zero, List.set_cons_succ, i64_w, i32_w]
                  rfl
                 exact norm_ (by first | (simp only [putAll, Act.put, List.setIfInBounds_toArray, List.set_cons_zero, List.set_cons_succ]; done) | (simp only [putAll, Act.put, List.setIfInBounds_toArray, List.set_cons_zero, List.set_cons_succ]; rfl)) (hJ4_5 (v203, gb206) _ ⟨(by (with_reducible repeat (first | apply Kd.R_alloc | apply Kd.R_drewN | apply Kd.R_drew)); exact HO197.out), (by (with_reducible repeat (first | apply Kd.R_alloc | apply Kd.R_drewN | apply Kd.R_drew)); exact HO200.out), (by (with_reducible repeat (first | apply Kd.R_alloc | apply Kd.R_drewN | apply Kd.R_drew)); exact HO204.out), (by (with_reducible repeat (first | refine blk_drewN ?_ _ | refine blk_drew ?_ | refine blk_alloc ?_ _)); exact BK190.out), (by (with_reducible repeat (first | refine blk_drewN ?_ _ | refine blk_drew ?_ | refine blk_alloc ?_ _)); exact BK206.out), GW190.out, GE190.out, NB206_190.out, NB190_206.out, GW206.out, GE206.out, (by repeat (first | (with_reducible first | exact HB.out | apply below_alloc | apply pw_below_drewN | apply below_drew1 | refine below_set ?_ GE190.out | refine below_set ?_ GE206.out) | exact HB.out))⟩)
                ·skip
                 refine goes_ Try.func12 (by kernel_rfl) rfl #[.pointer (some ⟨gb206, 0, none⟩), .slice A1 l1.length c1] (by rfl) rfl rfl (by (try simp only [List.map_toArray, List.map_cons, List.map_nil]); first | done | rfl | (simp only [List.length_drop, List.length_take]; rfl)) ?_
                 with_reducible refine (pack_Box_Put.calls k2 gb206 (fun k_ => some k_ = (v203 : Value).ownBlock) v203 t202 t205 _ _ l1 t207 t210 w _ ?side1 ?side2 ?side3 ?side4 ?side5 ?side6 A25.out).mono ?_
                 (case side1 => repeat (first | (with_reducible first | exact HB.out | apply below_alloc | apply pw_below_drewN | apply below_drew1 | refine below_set ?_ GE190.out | refine below_set ?_ GE206.out) | exact HB.out))
                 (case side2 => exact (by (with_reducible repeat (first | refine blk_drewN ?_ _ | refine blk_drew ?_ | refine blk_alloc ?_ _)); exact BK206.out))
                 (case side3 => exact GE206.out)
                 (case side4 => exact Kd.R_tight rfl HO204.out)
                 (case side5 => exact Kd.C_kept_came (Kd.heap_int .i64) HR1.out (by repeat (first | (with_reducible first | exact HB.out | apply below_alloc | apply pw_below_drewN | apply below_drew1 | refine below_set ?_ GE190.out | refine below_set ?_ GE206.out) | exact HB.out)) (fun k_ hs_ => Or.elim hs_ (fun hs_ => (fun e_ => Kd.R_base HO204.out k_ e_.symm) hs_) (fun e_ => (by rw [e_]; exact GE206.out))))
                 (case side6 => exact HC1.out)
                 rintro e w33 ⟨v208, rfl, ho0, hi, hb, hkp⟩
                 refine ⟨_, rfl, ?_⟩
                 have n0_ := Aside0.mk (blk_kept (by (with_reducible repeat (first | refine blk_drewN ?_ _ | refine blk_drew ?_ | refine blk_alloc ?_ _)); exact BK190.out) hkp (fun hs_ => Or.elim hs_ (fun hs_ => (fun e_ => (Kd.R_ne HO204.out BK190.out (by decide)) e_) hs_) (fun e_ => NB190_206.out e_)))
                 have n1_ := Aside0.mk (Kd.R_mono (ok' := fun k_ => some k_ ≠ (v199 : Value).ownBlock ∧ some k_ ≠ (v208 : Value).ownBlock) (Kd.R_keptB ((Kd.R_types HO197.out BK206.out (by decide))) hkp (fun k_ hk_ hs_ => Or.elim hs_ (fun hs_ => (hk_.1.2) hs_) (fun e_ => (hk_.2) e_))) (fun k_ hk_ => ⟨hk_.1.1.1, fun e_ => Or.elim (ho0.1 k_ e_.symm) (fun hs_ => hk_.2.1 (.inl hs_)) (fun hn_ => Nat.not_le.2 hk_.2.2 hn_)⟩))
                 have n2_ := Aside0.mk (Kd.R_mono (ok' := fun k_ => some k_ ≠ (v196 : Value).ownBlock ∧ some k_ ≠ (v208 : Value).ownBlock) (Kd.R_keptB ((Kd.R_types HO200.out BK206.out (by decide))) hkp (fun k_ hk_ hs_ => Or.elim hs_ (fun hs_ => (hk_.1.2) hs_) (fun e_ => (hk_.2) e_))) (fun k_ hk_ => ⟨hk_.1.1.1, fun e_ => Or.elim (ho0.1 k_ e_.symm) (fun hs_ => hk_.2.1 (.inl hs_)) (fun hn_ => Nat.not_le.2 hk_.2.2 hn_)⟩))
                 have n3_ := Aside0.mk (hi)
                 have n4_ := Aside0.mk (Kd.R_mono (ok' := fun k_ => some k_ ≠ (v196 : Value).ownBlock ∧ some k_ ≠ (v199 : Value).ownBlock) ho0 (fun k_ hk_ => ⟨Or.elim hk_ (fun hs_ => fun e_ => ((((Kd.R_types HO197.out BK206.out (by decide))).1 k_ e_.symm).1.2) hs_) (fun hn_ => (Kd.fresh' (Kd.R_lt (by (with_reducible repeat (first | apply Kd.R_alloc | apply Kd.R_drewN | apply Kd.R_drew)); exact HO197.out)) k_ hn_)), Or.elim hk_ (fun hs_ => fun e_ => ((((Kd.R_types HO200.out BK206.out (by decide))).1 k_ e_.symm).1.2) hs_) (fun hn_ => (Kd.fresh' (Kd.R_lt (by (with_reducible repeat (first | apply Kd.R_alloc | apply Kd.R_drewN | apply Kd.R_drew)); exact HO200.out)) k_ hn_))⟩))
                 have n5_ := Aside0.mk (hb)
                 clear BK190
                 clear HO197
                 clear HO200
                 clear BK206
                 clear HB
                 clear HO204
                 have BK190 := n0_
                 have HO197 := n1_
                 have HO200 := n2_
                 have BK206 := n3_
                 have HO209 := n4_
                 have HB := n5_
                 clear n0_ n1_ n2_ n3_ n4_ n5_
                 (try clear hb)
                 (try clear hkp)
                 (try clear hi)
                 (try clear ho0)
                 refine hK.out _ _ trivial (fun hHeld => ?_)
                 clear hK K
                 refine norm_ (a' := ?_) ?_ ?_
                 rotate_left
                 ·show Act.put _ (some 52) _ = _
                  simp only [Act.put, List.setIfInBounds_toArray, List.set_cons_zero, List.set_cons_succ, i64_w, i32_w]
                  rfl
                 exact norm_ (by first | (simp only [putAll, Act.put, List.setIfInBounds_toArray, List.set_cons_zero, List.set_cons_succ]; done) | (simp only [putAll, Act.put, List.setIfInBounds_toArray, List.set_cons_zero, List.set_cons_succ]; rfl)) (hJ5_7 (v203, gb206, v208) _ ⟨(by (with_reducible repeat (first | apply Kd.R_alloc | apply Kd.R_drewN | apply Kd.R_drew)); exact HO197.out), (by (with_reducible repeat (first | apply Kd.R_alloc | apply Kd.R_drewN | apply Kd.R_drew)); exact HO200.out), (by (with_reducible repeat (first | apply Kd.R_alloc | apply Kd.R_drewN | apply Kd.R_drew)); exact HO209.out), (by (with_reducible repeat (first | refine blk_drewN ?_ _ | refine blk_drew ?_ | refine blk_alloc ?_ _)); exact BK190.out), (by (with_reducible repeat (first | refine blk_drewN ?_ _ | refine blk_drew ?_ | refine blk_alloc ?_ _)); exact BK206.out), GW190.out, GE190.out, NB206_190.out, NB190_206.out, GW206.out, GE206.out, (by repeat (first | (with_reducible first | exact HB.out | apply below_alloc | apply pw_below_drewN | apply below_drew1 | refine below_set ?_ GE190.out | refine below_set ?_ GE206.out) | exact HB.out))⟩)
              ·skip
               rintro _ w32 ⟨h0_, h1_, h2_, h3_, h4_, h5_⟩
               have n0_ : Aside0 (Kd.R (Kd.int .u8) 5 w32 w.heap.size (fun k_ => some k_ ≠ (v199 : Value).ownBlock) v196 t195) := ⟨h0_⟩
               have n1_ : Aside0 (Kd.R (Kd.int .u8) 5 w32 w.heap.size (fun k_ => some k_ ≠ (v196 : Value).ownBlock) v199 t198) := ⟨h1_⟩
               have n2_ : Aside0 (w32.heap[gb190]? = some (.cells #[v199, .int .i64 t201] 51 (0, 0))) := ⟨h2_⟩
               have n3_ : Aside0 (w.heap.size ≤ gb190) := ⟨h3_⟩
               have n4_ : Aside0 (w.heap.size ≤ gb190) := ⟨h4_⟩
               have n5_ : Aside0 (Below w.heap.size w w32) := ⟨h5_⟩
               clear HB
               clear h0_ h1_ h2_ h3_ h4_ h5_
               have HO197 := n0_
               have HO200 := n1_
               have BK190 := n2_
               have GW190 := n3_
               have GE190 := n4_
               have HB := n5_
               clear n0_ n1_ n2_ n3_ n4_ n5_
               have hHeld := trivial
               refine norm_ (a' := ?_) ?_ ?_
               rotate_left
               ·simp only [putAll, Act.put, List.setIfInBounds_toArray, List.set_cons_zero, List.set_cons_succ]
                rfl
               refine one_ (i := 5) (N := some 50) #[T,T,T,T,T,T,T,F,F,F,F,T,F,F] rfl rfl (one_of HT_.out (by kernel_rfl)) (by decide) (fun K hK => ?_)
               refine goes_ Try.func11 (by kernel_rfl) rfl #[] (by rfl) rfl rfl (by (try simp only [List.map_toArray, List.map_cons, List.map_nil]); first | done | rfl | (simp only [List.length_drop, List.length_take]; rfl)) ?_
               with_reducible refine (pack_New.calls  t202 t205 _ A24.out).mono ?_
               rintro e w33 ⟨v203, gb206, rfl, ho0, hnb206, hnl206, hb⟩
               refine ⟨_, rfl, ?_⟩
               have n0_ := Aside0.mk (Kd.R_elder' (by (with_reducible repeat (first | apply Kd.R_alloc | apply Kd.R_drewN | apply Kd.R_drew)); exact HO197.out) (Kd.R_base ho0) hb)
               have n1_ := Aside0.mk (Kd.R_elder' (by (with_reducible repeat (first | apply Kd.R_alloc | apply Kd.R_drewN | apply Kd.R_drew)); exact HO200.out) (Kd.R_base ho0) hb)
               have n2_ := Aside0.mk (Kd.R_lower (Kd.R_new' (Kd.R_new' ho0 (Kd.R_lt (by (with_reducible repeat (first | apply Kd.R_alloc | apply Kd.R_drewN | apply Kd.R_drew)); exact HO197.out))) (Kd.R_lt (by (with_reducible repeat (first | apply Kd.R_alloc | apply Kd.R_drewN | apply Kd.R_drew)); exact HO200.out))) (below_size (by repeat (first | (with_reducible first | exact HB.out | apply below_alloc | apply pw_below_drewN | apply below_drew1 | refine below_set ?_ GE190.out) | exact HB.out))))
               have n3_ := Aside0.mk (blk_below (g := gb190) (o := .cells #[v199, .int .i64 t201] 51 (0, 0)) (by (with_reducible repeat (first | refine blk_drewN ?_ _ | refine blk_drew ?_ | refine blk_alloc ?_ _)); exact BK190.out) hb)
               have n4_ := Aside0.mk (hnb206)
               have n5_ := Aside0.mk ((Nat.le_trans (below_size (by repeat (first | (with_reducible first | exact HB.out | apply below_alloc | apply pw_below_drewN | apply below_drew1 | refine below_set ?_ GE190.out) | exact HB.out))) hnl206 : w.heap.size ≤ gb206))
               have n6_ := Aside0.mk ((Nat.le_trans (below_size (by repeat (first | (with_reducible first | exact HB.out | apply below_alloc | apply pw_below_drewN | apply below_drew1 | refine below_set ?_ GE190.out) | exact HB.out))) hnl206 : w.heap.size ≤ gb206))
               have n7_ := Aside0.mk ((Nat.ne_of_lt (Nat.lt_of_lt_of_le (blk_lt (g := gb190) (o := .cells #[v199, .int .i64 t201] 51 (0, 0)) (by (with_reducible repeat (first | refine blk_drewN ?_ _ | refine blk_drew ?_ | refine blk_alloc ?_ _)); exact BK190.out)) hnl206) : gb190 ≠ gb206))
               have n8_ := Aside0.mk ((Nat.ne_of_gt (Nat.lt_of_lt_of_le (blk_lt (g := gb190) (o := .cells #[v199, .int .i64 t201] 51 (0, 0)) (by (with_reducible repeat (first | refine blk_drewN ?_ _ | refine blk_drew ?_ | refine blk_alloc ?_ _)); exact BK190.out)) hnl206) : gb206 ≠ gb190))
               have n9_ := Aside0.mk (below_step (by repeat (first | (with_reducible first | exact HB.out | apply below_alloc | apply pw_below_drewN | apply below_drew1 | refine below_set ?_ GE190.out) | exact HB.out)) hb)
               clear HO197
               clear HO200
               clear BK190
               clear HB
               have HO197 := n0_
               have HO200 := n1_
               have HO204 := n2_
               have BK190 := n3_
               have BK206 := n4_
               have GW206 := n5_
               have GE206 := n6_
               have NB190_206 := n7_
               have NB206_190 := n8_
               have HB := n9_
               clear n0_ n1_ n2_ n3_ n4_ n5_ n6_ n7_ n8_ n9_
               (try clear hb)
               (try clear hb2)
               (try clear hk)
               (try clear hi)
               (try clear ho0)
               refine hK.out _ _ trivial (fun hHeld => ?_)
               clear hK K
               refine norm_ (a' := ?_) ?_ ?_
               rotate_left
               ·show Act.put _ (some 50) _ = _
                simp only [Act.put, List.setIfInBounds_toArray, List.set_cons_zero, List.set_cons_succ, i64_w, i32_w]
                rfl
               exact norm_ (by first | (simp only [putAll, Act.put, List.setIfInBounds_toArray, List.set_cons_zero, List.set_cons_succ]; done) | (simp only [putAll, Act.put, List.setIfInBounds_toArray, List.set_cons_zero, List.set_cons_succ]; rfl)) (hJ4_5 (v203, gb206) _ ⟨(by (with_reducible repeat (first | apply Kd.R_alloc | apply Kd.R_drewN | apply Kd.R_drew)); exact HO197.out), (by (with_reducible repeat (first | apply Kd.R_alloc | apply Kd.R_drewN | apply Kd.R_drew)); exact HO200.out), (by (with_reducible repeat (first | apply Kd.R_alloc | apply Kd.R_drewN | apply Kd.R_drew)); exact Kd.R_mono HO204.out (fun _ hk => ⟨hk.1.2, hk.2⟩)), (by (with_reducible repeat (first | refine blk_drewN ?_ _ | refine blk_drew ?_ | refine blk_alloc ?_ _)); exact BK190.out), (by (with_reducible repeat (first | refine blk_drewN ?_ _ | refine blk_drew ?_ | refine blk_alloc ?_ _)); exact BK206.out), GW190.out, GE190.out, NB206_190.out, NB190_206.out, GW206.out, GE206.out, (by repeat (first | (with_reducible first | exact HB.out | apply below_alloc | apply pw_below_drewN | apply below_drew1 | refine below_set ?_ GE190.out | refine below_set ?_ GE206.out) | exact HB.out))⟩)
             ·skip
              rintro ⟨v203, gb206, v208⟩ w33 ⟨h0_, h1_, h2_, h3_, h4_, h5_, h6_, h7_, h8_, h9_, h10_, h11_⟩
              have n0_ : Aside0 (Kd.R (Kd.int .u8) 5 w33 w.heap.size (fun k_ => some k_ ≠ (v199 : Value).ownBlock ∧ some k_ ≠ (v208 : Value).ownBlock) v196 t195) := ⟨h0_⟩
              have n1_ : Aside0 (Kd.R (Kd.int .u8) 5 w33 w.heap.size (fun k_ => some k_ ≠ (v196 : Value).ownBlock ∧ some k_ ≠ (v208 : Value).ownBlock) v199 t198) := ⟨h1_⟩
              have n2_ : Aside0 (Kd.R (Kd.int .u8) 5 w33 w.heap.size (fun k_ => some k_ ≠ (v196 : Value).ownBlock ∧ some k_ ≠ (v199 : Value).ownBlock) v208 t207) := ⟨h2_⟩
              have n3_ : Aside0 (w33.heap[gb190]? = some (.cells #[v199, .int .i64 t201] 51 (0, 0))) := ⟨h3_⟩
              have n4_ : Aside0 (w33.heap[gb206]? = some (.cells #[v208, .int .i64 t210] 51 (0, 0))) := ⟨h4_⟩
              have n5_ : Aside0 (w.heap.size ≤ gb190) := ⟨h5_⟩
              have n6_ : Aside0 (w.heap.size ≤ gb190) := ⟨h6_⟩
              have n7_ : Aside0 (gb206 ≠ gb190) := ⟨h7_⟩
              have n8_ : Aside0 (gb190 ≠ gb206) := ⟨h8_⟩
              have n9_ : Aside0 (w.heap.size ≤ gb206) := ⟨h9_⟩
              have n10_ : Aside0 (w.heap.size ≤ gb206) := ⟨h10_⟩
              have n11_ : Aside0 (Below w.heap.size w w33) := ⟨h11_⟩
              clear HB
              clear h0_ h1_ h2_ h3_ h4_ h5_ h6_ h7_ h8_ h9_ h10_ h11_
              have HO197 := n0_
              have HO200 := n1_
              have HO209 := n2_
              have BK190 := n3_
              have BK206 := n4_
              have GW190 := n5_
              have GE190 := n6_
              have NB206_190 := n7_
              have NB190_206 := n8_
              have GW206 := n9_
              have GE206 := n10_
              have HB := n11_
              clear n0_ n1_ n2_ n3_ n4_ n5_ n6_ n7_ n8_ n9_ n10_ n11_
              have hHeld := trivial
              refine norm_ (a' := ?_) ?_ ?_
              rotate_left
              ·simp only [putAll, Act.put, List.setIfInBounds_toArray, List.set_cons_zero, List.set_cons_succ]
               rfl
              refine two_ (i := 4) (j := 8) (Ni := some 49) (Nj := some 53) #[T,T,T,T,T,T,T,T,F,F,F,T,F,F] #[T,T,T,T,F,T,T,T,T,F,F,T,F,F] rfl rfl rfl rfl (two_of HT_.out (by kernel_rfl)) (by decide) (by decide) (fun K hK => ?_) (fun K hK => ?_)
              ·skip
               have hcv34 := own_string (P := Try.prog) Try.underlying24 Try.underlying5 Try.underlying9 (Kd.own_of_R HO197.out)
               refine value_ (w1 := ?_) (v := ?_) (by rfl) rfl ?_ ?_
               rotate_left 2
               ·go_simp
                constructor
                ·rfl
                ·rfl
               clear hcv34
               refine hK.out _ _ trivial (fun hHeld => ?_)
               clear hK K
               refine norm_ (a' := ?_) ?_ ?_
               rotate_left
               ·show Act.put _ (some 49) _ = _
                simp only [Act.put, List.setIfInBounds_toArray, List.set_cons_zero, List.set_cons_succ, i64_w, i32_w]
                rfl
               exact norm_ (by first | (simp only [putAll, Act.put, List.setIfInBounds_toArray, List.set_cons_zero, List.set_cons_succ]; done) | (simp only [putAll, Act.put, List.setIfInBounds_toArray, List.set_cons_zero, List.set_cons_succ]; rfl)) (hJ4_5_7 (v203, gb206, v208) _ ⟨(by (with_reducible repeat (first | apply Kd.R_alloc | apply Kd.R_drewN | apply Kd.R_drew)); exact HO197.out), (by (with_reducible repeat (first | apply Kd.R_alloc | apply Kd.R_drewN | apply Kd.R_drew)); exact HO200.out), (by (with_reducible repeat (first | apply Kd.R_alloc | apply Kd.R_drewN | apply Kd.R_drew)); exact HO209.out), (by (with_reducible repeat (first | refine blk_drewN ?_ _ | refine blk_drew ?_ | refine blk_alloc ?_ _)); exact BK190.out), (by (with_reducible repeat (first | refine blk_drewN ?_ _ | refine blk_drew ?_ | refine blk_alloc ?_ _)); exact BK206.out), GW190.out, GE190.out, NB206_190.out, NB190_206.out, GW206.out, GE206.out, (by repeat (first | (with_reducible first | exact HB.out | apply below_alloc | apply pw_below_drewN | apply below_drew1 | refine below_set ?_ GE190.out | refine below_set ?_ GE206.out) | exact HB.out))⟩)
              ·skip
               refine goes_ Try.func13 (by kernel_rfl) rfl #[.pointer (some ⟨gb206, 0, none⟩)] (by rfl) rfl rfl (by (try simp only [List.map_toArray, List.map_cons, List.map_nil]); first | done | rfl | (simp only [List.length_drop, List.length_take]; rfl)) ?_
               with_reducible refine (pack_Box_Done.calls gb206 (fun k_ => some k_ = (v208 : Value).ownBlock) v208 t207 t210 t211 t214 t217 w _ ?side1 ?side2 ?side3 ?side4 A26.out).mono ?_
               (case side1 => repeat (first | (with_reducible first | exact HB.out | apply below_alloc | apply pw_below_drewN | apply below_drew1 | refine below_set ?_ GE190.out | refine below_set ?_ GE206.out) | exact HB.out))
               (case side2 => exact (by (with_reducible repeat (first | refine blk_drewN ?_ _ | refine blk_drew ?_ | refine blk_alloc ?_ _)); exact BK206.out))
               (case side3 => exact GE206.out)
               (case side4 => exact Kd.R_tight rfl HO209.out)
               rintro e w34 ⟨v212, v215, rfl, ho0, ho1, hi, hb, hkp⟩
               refine ⟨_, rfl, ?_⟩
               have n0_ := Aside0.mk (blk_kept (by (with_reducible repeat (first | refine blk_drewN ?_ _ | refine blk_drew ?_ | refine blk_alloc ?_ _)); exact BK190.out) hkp (fun hs_ => Or.elim hs_ (fun hs_ => (fun e_ => (Kd.R_ne HO209.out BK190.out (by decide)) e_) hs_) (fun e_ => NB190_206.out e_)))
               have n1_ := Aside0.mk (Kd.R_mono (ok' := fun k_ => some k_ ≠ (v199 : Value).ownBlock ∧ some k_ ≠ (v212 : Value).ownBlock ∧ some k_ ≠ (v215 : Value).ownBlock) (Kd.R_keptB ((Kd.R_types HO197.out BK206.out (by decide))) hkp (fun k_ hk_ hs_ => Or.elim hs_ (fun hs_ => (hk_.1.2) hs_) (fun e_ => (hk_.2) e_))) (fun k_ hk_ => ⟨hk_.1.1.1, fun e_ => Or.elim (ho0.1 k_ e_.symm).1 (fun hs_ => hk_.2.1 (.inl hs_)) (fun hn_ => Nat.not_le.2 hk_.2.2 hn_), fun e_ => Or.elim (ho1.1 k_ e_.symm).1 (fun hs_ => hk_.2.1 (.inl hs_)) (fun hn_ => Nat.not_le.2 hk_.2.2 hn_)⟩))
               have n2_ := Aside0.mk (Kd.R_mono (ok' := fun k_ => some k_ ≠ (v196 : Value).ownBlock ∧ some k_ ≠ (v212 : Value).ownBlock ∧ some k_ ≠ (v215 : Value).ownBlock) (Kd.R_keptB ((Kd.R_types HO200.out BK206.out (by decide))) hkp (fun k_ hk_ hs_ => Or.elim hs_ (fun hs_ => (hk_.1.2) hs_) (fun e_ => (hk_.2) e_))) (fun k_ hk_ => ⟨hk_.1.1.1, fun e_ => Or.elim (ho0.1 k_ e_.symm).1 (fun hs_ => hk_.2.1 (.inl hs_)) (fun hn_ => Nat.not_le.2 hk_.2.2 hn_), fun e_ => Or.elim (ho1.1 k_ e_.symm).1 (fun hs_ => hk_.2.1 (.inl hs_)) (fun hn_ => Nat.not_le.2 hk_.2.2 hn_)⟩))
               have n3_ := Aside0.mk (hi)
               have n4_ := Aside0.mk (Kd.R_mono (ok' := fun k_ => some k_ ≠ (v215 : Value).ownBlock ∧ some k_ ≠ (v196 : Value).ownBlock ∧ some k_ ≠ (v199 : Value).ownBlock) ho0 (fun k_ hk_ => ⟨hk_.2, Or.elim hk_.1 (fun hs_ => fun e_ => ((((Kd.R_types HO197.out BK206.out (by decide))).1 k_ e_.symm).1.2) hs_) (fun hn_ => (Kd.fresh' (Kd.R_lt (by (with_reducible repeat (first | apply Kd.R_alloc | apply Kd.R_drewN | apply Kd.R_drew)); exact HO197.out)) k_ hn_)), Or.elim hk_.1 (fun hs_ => fun e_ => ((((Kd.R_types HO200.out BK206.out (by decide))).1 k_ e_.symm).1.2) hs_) (fun hn_ => (Kd.fresh' (Kd.R_lt (by (with_reducible repeat (first | apply Kd.R_alloc | apply Kd.R_drewN | apply Kd.R_drew)); exact HO200.out)) k_ hn_))⟩))
               have n5_ := Aside0.mk (Kd.R_mono (ok' := fun k_ => some k_ ≠ (v212 : Value).ownBlock ∧ some k_ ≠ (v196 : Value).ownBlock ∧ some k_ ≠ (v199 : Value).ownBlock) ho1 (fun k_ hk_ => ⟨hk_.2, Or.elim hk_.1 (fun hs_ => fun e_ => ((((Kd.R_types HO197.out BK206.out (by decide))).1 k_ e_.symm).1.2) hs_) (fun hn_ => (Kd.fresh' (Kd.R_lt (by (with_reducible repeat (first | apply Kd.R_alloc | apply Kd.R_drewN | apply Kd.R_drew)); exact HO197.out)) k_ hn_)), Or.elim hk_.1 (fun hs_ => fun e_ => ((((Kd.R_types HO200.out BK206.out (by decide))).1 k_ e_.symm).1.2) hs_) (fun hn_ => (Kd.fresh' (Kd.R_lt (by (with_reducible repeat (first | apply Kd.R_alloc | apply Kd.R_drewN | apply Kd.R_drew)); exact HO200.out)) k_ hn_))⟩))
               have n6_ := Aside0.mk (hb)
               clear BK190
               clear HO197
               clear HO200
               clear BK206
               clear HB
               clear HO209
               have BK190 := n0_
               have HO197 := n1_
               have HO200 := n2_
               have BK206 := n3_
               have HO213 := n4_
               have HO216 := n5_
               have HB := n6_
               clear n0_ n1_ n2_ n3_ n4_ n5_ n6_
               (try clear hb)
               (try clear hkp)
               (try clear hi)
               (try clear ho0)
               (try clear ho1)
               refine hK.out _ _ trivial (fun hHeld => ?_)
               clear hK K
               refine norm_ (a' := ?_) ?_ ?_
               rotate_left
               ·show Act.put _ (some 53) _ = _
                simp only [Act.put, List.setIfInBounds_toArray, List.set_cons_zero, List.set_cons_succ, i64_w, i32_w]
                rfl
               exact norm_ (by first | (simp only [putAll, Act.put, List.setIfInBounds_toArray, List.set_cons_zero, List.set_cons_succ]; done) | (simp only [putAll, Act.put, List.setIfInBounds_toArray, List.set_cons_zero, List.set_cons_succ]; rfl)) (hJ5_7_8 (v203, gb206, v208, v212, v215) _ ⟨(by (with_reducible repeat (first | apply Kd.R_alloc | apply Kd.R_drewN | apply Kd.R_drew)); exact HO197.out), (by (with_reducible repeat (first | apply Kd.R_alloc | apply Kd.R_drewN | apply Kd.R_drew)); exact HO200.out), (by (with_reducible repeat (first | apply Kd.R_alloc | apply Kd.R_drewN | apply Kd.R_drew)); exact Kd.R_mono HO213.out (fun _ hk => ⟨hk.2.1, ⟨hk.2.2, hk.1⟩⟩)), (by (with_reducible repeat (first | apply Kd.R_alloc | apply Kd.R_drewN | apply Kd.R_drew)); exact Kd.R_mono HO216.out (fun _ hk => ⟨hk.2.1, ⟨hk.2.2, hk.1⟩⟩)), (by (with_reducible repeat (first | refine blk_drewN ?_ _ | refine blk_drew ?_ | refine blk_alloc ?_ _)); exact BK190.out), (by (with_reducible repeat (first | refine blk_drewN ?_ _ | refine blk_drew ?_ | refine blk_alloc ?_ _)); exact BK206.out), GW190.out, GE190.out, NB206_190.out, NB190_206.out, GW206.out, GE206.out, (by repeat (first | (with_reducible first | exact HB.out | apply below_alloc | apply pw_below_drewN | apply below_drew1 | refine below_set ?_ GE190.out | refine below_set ?_ GE206.out) | exact HB.out))⟩)
            ·skip
             rintro ⟨v203, gb206⟩ w33 ⟨h0_, h1_, h2_, h3_, h4_, h5_, h6_, h7_, h8_, h9_, h10_, h11_⟩
             have n0_ : Aside0 (Kd.R (Kd.int .u8) 5 w33 w.heap.size (fun k_ => some k_ ≠ (v199 : Value).ownBlock ∧ some k_ ≠ (v203 : Value).ownBlock) v196 t195) := ⟨h0_⟩
             have n1_ : Aside0 (Kd.R (Kd.int .u8) 5 w33 w.heap.size (fun k_ => some k_ ≠ (v196 : Value).ownBlock ∧ some k_ ≠ (v203 : Value).ownBlock) v199 t198) := ⟨h1_⟩
             have n2_ : Aside0 (Kd.R (Kd.int .u8) 5 w33 w.heap.size (fun k_ => some k_ ≠ (v196 : Value).ownBlock ∧ some k_ ≠ (v199 : Value).ownBlock) v203 t202) := ⟨h2_⟩
             have n3_ : Aside0 (w33.heap[gb190]? = some (.cells #[v199, .int .i64 t201] 51 (0, 0))) := ⟨h3_⟩
             have n4_ : Aside0 (w33.heap[gb206]? = some (.cells #[v203, .int .i64 t205] 51 (0, 0))) := ⟨h4_⟩
             have n5_ : Aside0 (w.heap.size ≤ gb190) := ⟨h5_⟩
             have n6_ : Aside0 (w.heap.size ≤ gb190) := ⟨h6_⟩
             have n7_ : Aside0 (gb206 ≠ gb190) := ⟨h7_⟩
             have n8_ : Aside0 (gb190 ≠ gb206) := ⟨h8_⟩
             have n9_ : Aside0 (w.heap.size ≤ gb206) := ⟨h9_⟩
             have n10_ : Aside0 (w.heap.size ≤ gb206) := ⟨h10_⟩
             have n11_ : Aside0 (Below w.heap.size w w33) := ⟨h11_⟩
             clear HB
             clear h0_ h1_ h2_ h3_ h4_ h5_ h6_ h7_ h8_ h9_ h10_ h11_
             have HO197 := n0_
             have HO200 := n1_
             have HO204 := n2_
             have BK190 := n3_
             have BK206 := n4_
             have GW190 := n5_
             have GE190 := n6_
             have NB206_190 := n7_
             have NB190_206 := n8_
             have GW206 := n9_
             have GE206 := n10_
             have HB := n11_
             clear n0_ n1_ n2_ n3_ n4_ n5_ n6_ n7_ n8_ n9_ n10_ n11_
             have hHeld := trivial
             refine norm_ (a' := ?_) ?_ ?_
             rotate_left
             ·simp only [putAll, Act.put, List.setIfInBounds_toArray, List.set_cons_zero, List.set_cons_succ]
              rfl
             refine one_ (i := 7) (N := some 52) #[T,T,T,T,T,T,T,T,F,F,F,T,F,F] rfl rfl (one_of HT_.out (by kernel_rfl)) (by decide) (fun K hK => ?_)
             refine goes_ Try.func12 (by kernel_rfl) rfl #[.pointer (some ⟨gb206, 0, none⟩), .slice A1 l1.length c1] (by rfl) rfl rfl (by (try simp only [List.map_toArray, List.map_cons, List.map_nil]); first | done | rfl | (simp only [List.length_drop, List.length_take]; rfl)) ?_
             with_reducible refine (pack_Box_Put.calls k2 gb206 (fun k_ => some k_ = (v203 : Value).ownBlock) v203 t202 t205 _ _ l1 t207 t210 w _ ?side1 ?side2 ?side3 ?side4 ?side5 ?side6 A25.out).mono ?_
             (case side1 => repeat (first | (with_reducible first | exact HB.out | apply below_alloc | apply pw_below_drewN | apply below_drew1 | refine below_set ?_ GE190.out | refine below_set ?_ GE206.out) | exact HB.out))
             (case side2 => exact (by (with_reducible repeat (first | refine blk_drewN ?_ _ | refine blk_drew ?_ | refine blk_alloc ?_ _)); exact BK206.out))
             (case side3 => exact GE206.out)
             (case side4 => exact Kd.R_tight rfl HO204.out)
             (case side5 => exact Kd.C_kept_came (Kd.heap_int .i64) HR1.out (by repeat (first | (with_reducible first | exact HB.out | apply below_alloc | apply pw_below_drewN | apply below_drew1 | refine below_set ?_ GE190.out | refine below_set ?_ GE206.out) | exact HB.out)) (fun k_ hs_ => Or.elim hs_ (fun hs_ => (fun e_ => Kd.R_base HO204.out k_ e_.symm) hs_) (fun e_ => (by rw [e_]; exact GE206.out))))
             (case side6 => exact HC1.out)
             rintro e w34 ⟨v208, rfl, ho0, hi, hb, hkp⟩
             refine ⟨_, rfl, ?_⟩
             have n0_ := Aside0.mk (blk_kept (by (with_reducible repeat (first | refine blk_drewN ?_ _ | refine blk_drew ?_ | refine blk_alloc ?_ _)); exact BK190.out) hkp (fun hs_ => Or.elim hs_ (fun hs_ => (fun e_ => (Kd.R_ne HO204.out BK190.out (by decide)) e_) hs_) (fun e_ => NB190_206.out e_)))
             have n1_ := Aside0.mk (Kd.R_mono (ok' := fun k_ => some k_ ≠ (v199 : Value).ownBlock ∧ some k_ ≠ (v208 : Value).ownBlock) (Kd.R_keptB ((Kd.R_types HO197.out BK206.out (by decide))) hkp (fun k_ hk_ hs_ => Or.elim hs_ (fun hs_ => (hk_.1.2) hs_) (fun e_ => (hk_.2) e_))) (fun k_ hk_ => ⟨hk_.1.1.1, fun e_ => Or.elim (ho0.1 k_ e_.symm) (fun hs_ => hk_.2.1 (.inl hs_)) (fun hn_ => Nat.not_le.2 hk_.2.2 hn_)⟩))
             have n2_ := Aside0.mk (Kd.R_mono (ok' := fun k_ => some k_ ≠ (v196 : Value).ownBlock ∧ some k_ ≠ (v208 : Value).ownBlock) (Kd.R_keptB ((Kd.R_types HO200.out BK206.out (by decide))) hkp (fun k_ hk_ hs_ => Or.elim hs_ (fun hs_ => (hk_.1.2) hs_) (fun e_ => (hk_.2) e_))) (fun k_ hk_ => ⟨hk_.1.1.1, fun e_ => Or.elim (ho0.1 k_ e_.symm) (fun hs_ => hk_.2.1 (.inl hs_)) (fun hn_ => Nat.not_le.2 hk_.2.2 hn_)⟩))
             have n3_ := Aside0.mk (hi)
             have n4_ := Aside0.mk (Kd.R_mono (ok' := fun k_ => some k_ ≠ (v196 : Value).ownBlock ∧ some k_ ≠ (v199 : Value).ownBlock) ho0 (fun k_ hk_ => ⟨Or.elim hk_ (fun hs_ => fun e_ => ((((Kd.R_types HO197.out BK206.out (by decide))).1 k_ e_.symm).1.2) hs_) (fun hn_ => (Kd.fresh' (Kd.R_lt (by (with_reducible repeat (first | apply Kd.R_alloc | apply Kd.R_drewN | apply Kd.R_drew)); exact HO197.out)) k_ hn_)), Or.elim hk_ (fun hs_ => fun e_ => ((((Kd.R_types HO200.out BK206.out (by decide))).1 k_ e_.symm).1.2) hs_) (fun hn_ => (Kd.fresh' (Kd.R_lt (by (with_reducible repeat (first | apply Kd.R_alloc | apply Kd.R_drewN | apply Kd.R_drew)); exact HO200.out)) k_ hn_))⟩))
             have n5_ := Aside0.mk (hb)
             clear BK190
             clear HO197
             clear HO200
             clear BK206
             clear HB
             clear HO204
             have BK190 := n0_
             have HO197 := n1_
             have HO200 := n2_
             have BK206 := n3_
             have HO209 := n4_
             have HB := n5_
             clear n0_ n1_ n2_ n3_ n4_ n5_
             (try clear hb)
             (try clear hkp)
             (try clear hi)
             (try clear ho0)
             refine hK.out _ _ trivial (fun hHeld => ?_)
             clear hK K
             refine norm_ (a' := ?_) ?_ ?_
             rotate_left
             ·show Act.put _ (some 52) _ = _
              simp only [Act.put, List.setIfInBounds_toArray, List.set_cons_zero, List.set_cons_succ, i64_w, i32_w]
              rfl
             exact norm_ (by first | (simp only [putAll, Act.put, List.setIfInBounds_toArray, List.set_cons_zero, List.set_cons_succ]; done) | (simp only [putAll, Act.put, List.setIfInBounds_toArray, List.set_cons_zero, List.set_cons_succ]; rfl)) (hJ4_5_7 (v203, gb206, v208) _ ⟨(by (with_reducible repeat (first | apply Kd.R_alloc | apply Kd.R_drewN | apply Kd.R_drew)); exact HO197.out), (by (with_reducible repeat (first | apply Kd.R_alloc | apply Kd.R_drewN | apply Kd.R_drew)); exact HO200.out), (by (with_reducible repeat (first | apply Kd.R_alloc | apply Kd.R_drewN | apply Kd.R_drew)); exact HO209.out), (by (with_reducible repeat (first | refine blk_drewN ?_ _ | refine blk_drew ?_ | refine blk_alloc ?_ _)); exact BK190.out), (by (with_reducible repeat (first | refine blk_drewN ?_ _ | refine blk_drew ?_ | refine blk_alloc ?_ _)); exact BK206.out), GW190.out, GE190.out, NB206_190.out, NB190_206.out, GW206.out, GE206.out, (by repeat (first | (with_reducible first | exact HB.out | apply below_alloc | apply pw_below_drewN | apply below_drew1 | refine below_set ?_ GE190.out | refine below_set ?_ GE206.out) | exact HB.out))⟩)
           ·skip
            rintro ⟨v203, gb206, v208, v212, v215⟩ w34 ⟨h0_, h1_, h2_, h3_, h4_, h5_, h6_, h7_, h8_, h9_, h10_, h11_, h12_⟩
            have n0_ : Aside0 (Kd.R (Kd.int .u8) 5 w34 w.heap.size (fun k_ => some k_ ≠ (v199 : Value).ownBlock ∧ some k_ ≠ (v212 : Value).ownBlock ∧ some k_ ≠ (v215 : Value).ownBlock) v196 t195) := ⟨h0_⟩
            have n1_ : Aside0 (Kd.R (Kd.int .u8) 5 w34 w.heap.size (fun k_ => some k_ ≠ (v196 : Value).ownBlock ∧ some k_ ≠ (v212 : Value).ownBlock ∧ some k_ ≠ (v215 : Value).ownBlock) v199 t198) := ⟨h1_⟩
            have n2_ : Aside0 (Kd.R (Kd.int .u8) 5 w34 w.heap.size (fun k_ => some k_ ≠ (v196 : Value).ownBlock ∧ some k_ ≠ (v199 : Value).ownBlock ∧ some k_ ≠ (v215 : Value).ownBlock) v212 t211) := ⟨h2_⟩
            have n3_ : Aside0 (Kd.R (Kd.int .u8) 5 w34 w.heap.size (fun k_ => some k_ ≠ (v196 : Value).ownBlock ∧ some k_ ≠ (v199 : Value).ownBlock ∧ some k_ ≠ (v212 : Value).ownBlock) v215 t214) := ⟨h3_⟩
            have n4_ : Aside0 (w34.heap[gb190]? = some (.cells #[v199, .int .i64 t201] 51 (0, 0))) := ⟨h4_⟩
            have n5_ : Aside0 (w34.heap[gb206]? = some (.cells #[v215, .int .i64 t217] 51 (0, 0))) := ⟨h5_⟩
            have n6_ : Aside0 (w.heap.size ≤ gb190) := ⟨h6_⟩
            have n7_ : Aside0 (w.heap.size ≤ gb190) := ⟨h7_⟩
            have n8_ : Aside0 (gb206 ≠ gb190) := ⟨h8_⟩
            have n9_ : Aside0 (gb190 ≠ gb206) := ⟨h9_⟩
            have n10_ : Aside0 (w.heap.size ≤ gb206) := ⟨h10_⟩
            have n11_ : Aside0 (w.heap.size ≤ gb206) := ⟨h11_⟩
            have n12_ : Aside0 (Below w.heap.size w w34) := ⟨h12_⟩
            clear HB
            clear h0_ h1_ h2_ h3_ h4_ h5_ h6_ h7_ h8_ h9_ h10_ h11_ h12_
            have HO197 := n0_
            have HO200 := n1_
            have HO213 := n2_
            have HO216 := n3_
            have BK190 := n4_
            have BK206 := n5_
            have GW190 := n6_
            have GE190 := n7_
            have NB206_190 := n8_
            have NB190_206 := n9_
            have GW206 := n10_
            have GE206 := n11_
            have HB := n12_
            clear n0_ n1_ n2_ n3_ n4_ n5_ n6_ n7_ n8_ n9_ n10_ n11_ n12_
            have hHeld := trivial
            refine norm_ (a' := ?_) ?_ ?_
            rotate_left
            ·simp only [putAll, Act.put, List.setIfInBounds_toArray, List.set_cons_zero, List.set_cons_succ]
             rfl
            refine two_ (i := 4) (j := 9) (Ni := some 49) (Nj := some 54) #[T,T,T,T,T,T,T,T,T,F,F,T,F,F] #[T,T,T,T,F,T,T,T,T,T,F,T,F,F] rfl rfl rfl rfl (two_of HT_.out (by kernel_rfl)) (by decide) (by decide) (fun K hK => ?_) (fun K hK => ?_)
            ·skip
             have hcv35 := own_string (P := Try.prog) Try.underlying24 Try.underlying5 Try.underlying9 (Kd.own_of_R HO197.out)
             refine value_ (w1 := ?_) (v := ?_) (by rfl) rfl ?_ ?_
             rotate_left 2
             ·go_simp
              constructor
              ·rfl
              ·rfl
             clear hcv35
             refine hK.out _ _ trivial (fun hHeld => ?_)
             clear hK K
             refine norm_ (a' := ?_) ?_ ?_
             rotate_left
             ·show Act.put _ (some 49) _ = _
              simp only [Act.put, List.setIfInBounds_toArray, List.set_cons_zero, List.set_cons_succ, i64_w, i32_w]
              rfl
             exact norm_ (by first | (simp only [putAll, Act.put, List.setIfInBounds_toArray, List.set_cons_zero, List.set_cons_succ]; done) | (simp only [putAll, Act.put, List.setIfInBounds_toArray, List.set_cons_zero, List.set_cons_succ]; rfl)) (hJ4_5_7_8 (v203, gb206, v208, v212, v215) _ ⟨(by (with_reducible repeat (first | apply Kd.R_alloc | apply Kd.R_drewN | apply Kd.R_drew)); exact HO197.out), (by (with_reducible repeat (first | apply Kd.R_alloc | apply Kd.R_drewN | apply Kd.R_drew)); exact HO200.out), (by (with_reducible repeat (first | apply Kd.R_alloc | apply Kd.R_drewN | apply Kd.R_drew)); exact HO213.out), (by (with_reducible repeat (first | apply Kd.R_alloc | apply Kd.R_drewN | apply Kd.R_drew)); exact HO216.out), (by (with_reducible repeat (first | refine blk_drewN ?_ _ | refine blk_drew ?_ | refine blk_alloc ?_ _)); exact BK190.out), (by (with_reducible repeat (first | refine blk_drewN ?_ _ | refine blk_drew ?_ | refine blk_alloc ?_ _)); exact BK206.out), GW190.out, GE190.out, NB206_190.out, NB190_206.out, GW206.out, GE206.out, (by repeat (first | (with_reducible first | exact HB.out | apply below_alloc | apply pw_below_drewN | apply below_drew1 | refine below_set ?_ GE190.out | refine below_set ?_ GE206.out) | exact HB.out))⟩)
            ·skip
             have hcv35 := own_string (P := Try.prog) Try.underlying24 Try.underlying5 Try.underlying9 (Kd.own_of_R HO213.out)
             refine value_ (w1 := ?_) (v := ?_) (by rfl) rfl ?_ ?_
             rotate_left 2
             ·go_simp
              constructor
              ·rfl
              ·rfl
             clear hcv35
             refine hK.out _ _ trivial (fun hHeld => ?_)
             clear hK K
             refine norm_ (a' := ?_) ?_ ?_
             rotate_left
             ·show Act.put _ (some 54) _ = _
              simp only [Act.put, List.setIfInBounds_toArray, List.set_cons_zero, List.set_cons_succ, i64_w, i32_w]
              rfl
             exact norm_ (by first | (simp only [putAll, Act.put, List.setIfInBounds_toArray, List.set_cons_zero, List.set_cons_succ]; done) | (simp only [putAll, Act.put, List.setIfInBounds_toArray, List.set_cons_zero, List.set_cons_succ]; rfl)) (hJ5_7_8_9 (v203, gb206, v208, v212, v215) _ ⟨(by (with_reducible repeat (first | apply Kd.R_alloc | apply Kd.R_drewN | apply Kd.R_drew)); exact HO197.out), (by (with_reducible repeat (first | apply Kd.R_alloc | apply Kd.R_drewN | apply Kd.R_drew)); exact HO200.out), (by (with_reducible repeat (first | apply Kd.R_alloc | apply Kd.R_drewN | apply Kd.R_drew)); exact HO213.out), (by (with_reducible repeat (first | apply Kd.R_alloc | apply Kd.R_drewN | apply Kd.R_drew)); exact HO216.out), (by (with_reducible repeat (first | refine blk_drewN ?_ _ | refine blk_drew ?_ | refine blk_alloc ?_ _)); exact BK190.out), (by (with_reducible repeat (first | refine blk_drewN ?_ _ | refine blk_drew ?_ | refine blk_alloc ?_ _)); exact BK206.out), GW190.out, GE190.out, NB206_190.out, NB190_206.out, GW206.out, GE206.out, (by repeat (first | (with_reducible first | exact HB.out | apply below_alloc | apply pw_below_drewN | apply below_drew1 | refine below_set ?_ GE190.out | refine below_set ?_ GE206.out) | exact HB.out))⟩)
          ·skip
           rintro ⟨v203, gb206, v208⟩ w34 ⟨h0_, h1_, h2_, h3_, h4_, h5_, h6_, h7_, h8_, h9_, h10_, h11_⟩
           have n0_ : Aside0 (Kd.R (Kd.int .u8) 5 w34 w.heap.size (fun k_ => some k_ ≠ (v199 : Value).ownBlock ∧ some k_ ≠ (v208 : Value).ownBlock) v196 t195) := ⟨h0_⟩
           have n1_ : Aside0 (Kd.R (Kd.int .u8) 5 w34 w.heap.size (fun k_ => some k_ ≠ (v196 : Value).ownBlock ∧ some k_ ≠ (v208 : Value).ownBlock) v199 t198) := ⟨h1_⟩
           have n2_ : Aside0 (Kd.R (Kd.int .u8) 5 w34 w.heap.size (fun k_ => some k_ ≠ (v196 : Value).ownBlock ∧ some k_ ≠ (v199 : Value).ownBlock) v208 t207) := ⟨h2_⟩
           have n3_ : Aside0 (w34.heap[gb190]? = some (.cells #[v199, .int .i64 t201] 51 (0, 0))) := ⟨h3_⟩
           have n4_ : Aside0 (w34.heap[gb206]? = some (.cells #[v208, .int .i64 t210] 51 (0, 0))) := ⟨h4_⟩
           have n5_ : Aside0 (w.heap.size ≤ gb190) := ⟨h5_⟩
           have n6_ : Aside0 (w.heap.size ≤ gb190) := ⟨h6_⟩
           have n7_ : Aside0 (gb206 ≠ gb190) := ⟨h7_⟩
           have n8_ : Aside0 (gb190 ≠ gb206) := ⟨h8_⟩
           have n9_ : Aside0 (w.heap.size ≤ gb206) := ⟨h9_⟩
           have n10_ : Aside0 (w.heap.size ≤ gb206) := ⟨h10_⟩
           have n11_ : Aside0 (Below w.heap.size w w34) := ⟨h11_⟩
           clear HB
           clear h0_ h1_ h2_ h3_ h4_ h5_ h6_ h7_ h8_ h9_ h10_ h11_
           have HO197 := n0_
           have HO200 := n1_
           have HO209 := n2_
           have BK190 := n3_
           have BK206 := n4_
           have GW190 := n5_
           have GE190 := n6_
           have NB206_190 := n7_
           have NB190_206 := n8_
           have GW206 := n9_
           have GE206 := n10_
           have HB := n11_
           clear n0_ n1_ n2_ n3_ n4_ n5_ n6_ n7_ n8_ n9_ n10_ n11_
           have hHeld := trivial
           refine norm_ (a' := ?_) ?_ ?_
           rotate_left
           ·simp only [putAll, Act.put, List.setIfInBounds_toArray, List.set_cons_zero, List.set_cons_succ]
            rfl
           refine one_ (i := 8) (N := some 53) #[T,T,T,T,T,T,T,T,T,F,F,T,F,F] rfl rfl (one_of HT_.out (by kernel_rfl)) (by decide) (fun K hK => ?_)
           refine goes_ Try.func13 (by kernel_rfl) rfl #[.pointer (some ⟨gb206, 0, none⟩)] (by rfl) rfl rfl (by (try simp only [List.map_toArray, List.map_cons, List.map_nil]); first | done | rfl | (simp only [List.length_drop, List.length_take]; rfl)) ?_
           with_reducible refine (pack_Box_Done.calls gb206 (fun k_ => some k_ = (v208 : Value).ownBlock) v208 t207 t210 t211 t214 t217 w _ ?side1 ?side2 ?side3 ?side4 A26.out).mono ?_
           (case side1 => repeat (first | (with_reducible first | exact HB.out | apply below_alloc | apply pw_below_drewN | apply below_drew1 | refine below_set ?_ GE190.out | refine below_set ?_ GE206.out) | exact HB.out))
           (case side2 => exact (by (with_reducible repeat (first | refine blk_drewN ?_ _ | refine blk_drew ?_ | refine blk_alloc ?_ _)); exact BK206.out))
           (case side3 => exact GE206.out)
           (case side4 => exact Kd.R_tight rfl HO209.out)
           rintro e w35 ⟨v212, v215, rfl, ho0, ho1, hi, hb, hkp⟩
           refine ⟨_, rfl, ?_⟩
           have n0_ := Aside0.mk (blk_kept (by (with_reducible repeat (first | refine blk_drewN ?_ _ | refine blk_drew ?_ | refine blk_alloc ?_ _)); exact BK190.out) hkp (fun hs_ => Or.elim hs_ (fun hs_ => (fun e_ => (Kd.R_ne HO209.out BK190.out (by decide)) e_) hs_) (fun e_ => NB190_206.out e_)))
           have n1_ := Aside0.mk (Kd.R_mono (ok' := fun k_ => some k_ ≠ (v199 : Value).ownBlock ∧ some k_ ≠ (v212 : Value).ownBlock ∧ some k_ ≠ (v215 : Value).ownBlock) (Kd.R_keptB ((Kd.R_types HO197.out BK206.out (by decide))) hkp (fun k_ hk_ hs_ => Or.elim hs_ (fun hs_ => (hk_.1.2) hs_) (fun e_ => (hk_.2) e_))) (fun k_ hk_ => ⟨hk_.1.1.1, fun e_ => Or.elim (ho0.1 k_ e_.symm).1 (fun hs_ => hk_.2.1 (.inl hs_)) (fun hn_ => Nat.not_le.2 hk_.2.2 hn_), fun e_ => Or.elim (ho1.1 k_ e_.symm).1 (fun hs_ => hk_.2.1 (.inl hs_)) (fun hn_ => Nat.not_le.2 hk_.2.2 hn_)⟩))
           have n2_ := Aside0.mk (Kd.R_mono (ok' := fun k_ => some k_ ≠ (v196 : Value).ownBlock ∧ some k_ ≠ (v212 : Value).ownBlock ∧ some k_ ≠ (v215 : Value).ownBlock) (Kd.R_keptB ((Kd.R_types HO200.out BK206.out (by decide))) hkp (fun k_ hk_ hs_ => Or.elim hs_ (fun hs_ => (hk_.1.2) hs_) (fun e_ => (hk_.2) e_))) (fun k_ hk_ => ⟨hk_.1.1.1, fun e_ => Or.elim (ho0.1 k_ e_.symm).1 (fun hs_ => hk_.2.1 (.inl hs_)) (fun hn_ => Nat.not_le.2 hk_.2.2 hn_), fun e_ => Or.elim (ho1.1 k_ e_.symm).1 (fun hs_ => hk_.2.1 (.inl hs_)) (fun hn_ => Nat.not_le.2 hk_.2.2 hn_)⟩))
           have n3_ := Aside0.mk (hi)
           have n4_ := Aside0.mk (Kd.R_mono (ok' := fun k_ => some k_ ≠ (v215 : Value).ownBlock ∧ some k_ ≠ (v196 : Value).ownBlock ∧ some k_ ≠ (v199 : Value).ownBlock) ho0 (fun k_ hk_ => ⟨hk_.2, Or.elim hk_.1 (fun hs_ => fun e_ => ((((Kd.R_types HO197.out BK206.out (by decide))).1 k_ e_.symm).1.2) hs_) (fun hn_ => (Kd.fresh' (Kd.R_lt (by (with_reducible repeat (first | apply Kd.R_alloc | apply Kd.R_drewN | apply Kd.R_drew)); exact HO197.out)) k_ hn_)), Or.elim hk_.1 (fun hs_ => fun e_ => ((((Kd.R_types HO200.out BK206.out (by decide))).1 k_ e_.symm).1.2) hs_) (fun hn_ => (Kd.fresh' (Kd.R_lt (by (with_reducible repeat (first | apply Kd.R_alloc | apply Kd.R_drewN | apply Kd.R_drew)); exact HO200.out)) k_ hn_))⟩))
           have n5_ := Aside0.mk (Kd.R_mono (ok' := fun k_ => some k_ ≠ (v212 : Value).ownBlock ∧ some k_ ≠ (v196 : Value).ownBlock ∧ some k_ ≠ (v199 : Value).ownBlock) ho1 (fun k_ hk_ => ⟨hk_.2, Or.elim hk_.1 (fun hs_ => fun e_ => ((((Kd.R_types HO197.out BK206.out (by decide))).1 k_ e_.symm).1.2) hs_) (fun hn_ => (Kd.fresh' (Kd.R_lt (by (with_reducible repeat (first | apply Kd.R_alloc | apply Kd.R_drewN | apply Kd.R_drew)); exact HO197.out)) k_ hn_)), Or.elim hk_.1 (fun hs_ => fun e_ => ((((Kd.R_types HO200.out BK206.out (by decide))).1 k_ e_.symm).1.2) hs_) (fun hn_ => (Kd.fresh' (Kd.R_lt (by (with_reducible repeat (first | apply Kd.R_alloc | apply Kd.R_drewN | apply Kd.R_drew)); exact HO200.out)) k_ hn_))⟩))
           have n6_ := Aside0.mk (hb)
           clear BK190
           clear HO197
           clear HO200
           clear BK206
           clear HB
           clear HO209
           have BK190 := n0_
           have HO197 := n1_
           have HO200 := n2_
           have BK206 := n3_
           have HO213 := n4_
           have HO216 := n5_
           have HB := n6_
           clear n0_ n1_ n2_ n3_ n4_ n5_ n6_
           (try clear hb)
           (try clear hkp)
           (try clear hi)
           (try clear ho0)
           (try clear ho1)
           refine hK.out _ _ trivial (fun hHeld => ?_)
           clear hK K
           refine norm_ (a' := ?_) ?_ ?_
           rotate_left
           ·show Act.put _ (some 53) _ = _
            simp only [Act.put, List.setIfInBounds_toArray, List.set_cons_zero, List.set_cons_succ, i64_w, i32_w]
            rfl
           exact norm_ (by first | (simp only [putAll, Act.put, List.setIfInBounds_toArray, List.set_cons_zero, List.set_cons_succ]; done) | (simp only [putAll, Act.put, List.setIfInBounds_toArray, List.set_cons_zero, List.set_cons_succ]; rfl)) (hJ4_5_7_8 (v203, gb206, v208, v212, v215) _ ⟨(by (with_reducible repeat (first | apply Kd.R_alloc | apply Kd.R_drewN | apply Kd.R_drew)); exact HO197.out), (by (with_reducible repeat (first | apply Kd.R_alloc | apply Kd.R_drewN | apply Kd.R_drew)); exact HO200.out), (by (with_reducible repeat (first | apply Kd.R_alloc | apply Kd.R_drewN | apply Kd.R_drew)); exact Kd.R_mono HO213.out (fun _ hk => ⟨hk.2.1, ⟨hk.2.2, hk.1⟩⟩)), (by (with_reducible repeat (first | apply Kd.R_alloc | apply Kd.R_drewN | apply Kd.R_drew)); exact Kd.R_mono HO216.out (fun _ hk => ⟨hk.2.1, ⟨hk.2.2, hk.1⟩⟩)), (by (with_reducible repeat (first | refine blk_drewN ?_ _ | refine blk_drew ?_ | refine blk_alloc ?_ _)); exact BK190.out), (by (with_reducible repeat (first | refine blk_drewN ?_ _ | refine blk_drew ?_ | refine blk_alloc ?_ _)); exact BK206.out), GW190.out, GE190.out, NB206_190.out, NB190_206.out, GW206.out, GE206.out, (by repeat (first | (with_reducible first | exact HB.out | apply below_alloc | apply pw_below_drewN | apply below_drew1 | refine below_set ?_ GE190.out | refine below_set ?_ GE206.out) | exact HB.out))⟩)
         ·skip
          rintro ⟨v203, gb206, v208, v212, v215⟩ w35 ⟨h0_, h1_, h2_, h3_, h4_, h5_, h6_, h7_, h8_, h9_, h10_, h11_, h12_⟩
          have n0_ : Aside0 (Kd.R (Kd.int .u8) 5 w35 w.heap.size (fun k_ => some k_ ≠ (v199 : Value).ownBlock ∧ some k_ ≠ (v212 : Value).ownBlock ∧ some k_ ≠ (v215 : Value).ownBlock) v196 t195) := ⟨h0_⟩
          have n1_ : Aside0 (Kd.R (Kd.int .u8) 5 w35 w.heap.size (fun k_ => some k_ ≠ (v196 : Value).ownBlock ∧ some k_ ≠ (v212 : Value).ownBlock ∧ some k_ ≠ (v215 : Value).ownBlock) v199 t198) := ⟨h1_⟩
          have n2_ : Aside0 (Kd.R (Kd.int .u8) 5 w35 w.heap.size (fun k_ => some k_ ≠ (v196 : Value).ownBlock ∧ some k_ ≠ (v199 : Value).ownBlock ∧ some k_ ≠ (v215 : Value).ownBlock) v212 t211) := ⟨h2_⟩
          have n3_ : Aside0 (Kd.R (Kd.int .u8) 5 w35 w.heap.size (fun k_ => some k_ ≠ (v196 : Value).ownBlock ∧ some k_ ≠ (v199 : Value).ownBlock ∧ some k_ ≠ (v212 : Value).ownBlock) v215 t214) := ⟨h3_⟩
          have n4_ : Aside0 (w35.heap[gb190]? = some (.cells #[v199, .int .i64 t201] 51 (0, 0))) := ⟨h4_⟩
          have n5_ : Aside0 (w35.heap[gb206]? = some (.cells #[v215, .int .i64 t217] 51 (0, 0))) := ⟨h5_⟩
          have n6_ : Aside0 (w.heap.size ≤ gb190) := ⟨h6_⟩
          have n7_ : Aside0 (w.heap.size ≤ gb190) := ⟨h7_⟩
          have n8_ : Aside0 (gb206 ≠ gb190) := ⟨h8_⟩
          have n9_ : Aside0 (gb190 ≠ gb206) := ⟨h9_⟩
          have n10_ : Aside0 (w.heap.size ≤ gb206) := ⟨h10_⟩
          have n11_ : Aside0 (w.heap.size ≤ gb206) := ⟨h11_⟩
          have n12_ : Aside0 (Below w.heap.size w w35) := ⟨h12_⟩
          clear HB
          clear h0_ h1_ h2_ h3_ h4_ h5_ h6_ h7_ h8_ h9_ h10_ h11_ h12_
          have HO197 := n0_
          have HO200 := n1_
          have HO213 := n2_
          have HO216 := n3_
          have BK190 := n4_
          have BK206 := n5_
          have GW190 := n6_
          have GE190 := n7_
          have NB206_190 := n8_
          have NB190_206 := n9_
          have GW206 := n10_
          have GE206 := n11_
          have HB := n12_
          clear n0_ n1_ n2_ n3_ n4_ n5_ n6_ n7_ n8_ n9_ n10_ n11_ n12_
          have hHeld := trivial
          refine norm_ (a' := ?_) ?_ ?_
          rotate_left
          ·simp only [putAll, Act.put, List.setIfInBounds_toArray, List.set_cons_zero, List.set_cons_succ]
           rfl
          refine one_ (i := 4) (N := some 49) #[T,T,T,T,T,T,T,T,T,T,F,T,F,F] rfl rfl (one_of HT_.out (by kernel_rfl)) (by decide) (fun K hK => ?_)
          have hcv36 := own_string (P := Try.prog) Try.underlying24 Try.underlying5 Try.underlying9 (Kd.own_of_R HO197.out)
          refine value_ (w1 := ?_) (v := ?_) (by rfl) rfl ?_ ?_
          rotate_left 2
          ·go_simp
           constructor
           ·rfl
           ·rfl
          clear hcv36
          refine hK.out _ _ trivial (fun hHeld => ?_)
          clear hK K
          refine norm_ (a' := ?_) ?_ ?_
          rotate_left
          ·show Act.put _ (some 49) _ = _
           simp only [Act.put, List.setIfInBounds_toArray, List.set_cons_zero, List.set_cons_succ, i64_w, i32_w]
           rfl
          exact norm_ (by first | (simp only [putAll, Act.put, List.setIfInBounds_toArray, List.set_cons_zero, List.set_cons_succ]; done) | (simp only [putAll, Act.put, List.setIfInBounds_toArray, List.set_cons_zero, List.set_cons_succ]; rfl)) (hJ4_5_7_8_9 (v203, gb206, v208, v212, v215) _ ⟨(by (with_reducible repeat (first | apply Kd.R_alloc | apply Kd.R_drewN | apply Kd.R_drew)); exact HO197.out), (by (with_reducible repeat (first | apply Kd.R_alloc | apply Kd.R_drewN | apply Kd.R_drew)); exact HO200.out), (by (with_reducible repeat (first | apply Kd.R_alloc | apply Kd.R_drewN | apply Kd.R_drew)); exact HO213.out), (by (with_reducible repeat (first | apply Kd.R_alloc | apply Kd.R_drewN | apply Kd.R_drew)); exact HO216.out), (by (with_reducible repeat (first | refine blk_drewN ?_ _ | refine blk_drew ?_ | refine blk_alloc ?_ _)); exact BK190.out), (by (with_reducible repeat (first | refine blk_drewN ?_ _ | refine blk_drew ?_ | refine blk_alloc ?_ _)); exact BK206.out), GW190.out, GE190.out, NB206_190.out, NB190_206.out, GW206.out, GE206.out, (by repeat (first | (with_reducible first | exact HB.out | apply below_alloc | apply pw_below_drewN | apply below_drew1 | refine below_set ?_ GE190.out | refine below_set ?_ GE206.out) | exact HB.out))⟩)
        ·skip
         rintro ⟨v203, gb206, v208, v212, v215⟩ w35 ⟨h0_, h1_, h2_, h3_, h4_, h5_, h6_, h7_, h8_, h9_, h10_, h11_, h12_⟩
         have n0_ : Aside0 (Kd.R (Kd.int .u8) 5 w35 w.heap.size (fun k_ => some k_ ≠ (v199 : Value).ownBlock ∧ some k_ ≠ (v212 : Value).ownBlock ∧ some k_ ≠ (v215 : Value).ownBlock) v196 t195) := ⟨h0_⟩
         have n1_ : Aside0 (Kd.R (Kd.int .u8) 5 w35 w.heap.size (fun k_ => some k_ ≠ (v196 : Value).ownBlock ∧ some k_ ≠ (v212 : Value).ownBlock ∧ some k_ ≠ (v215 : Value).ownBlock) v199 t198) := ⟨h1_⟩
         have n2_ : Aside0 (Kd.R (Kd.int .u8) 5 w35 w.heap.size (fun k_ => some k_ ≠ (v196 : Value).ownBlock ∧ some k_ ≠ (v199 : Value).ownBlock ∧ some k_ ≠ (v215 : Value).ownBlock) v212 t211) := ⟨h2_⟩
         have n3_ : Aside0 (Kd.R (Kd.int .u8) 5 w35 w.heap.size (fun k_ => some k_ ≠ (v196 : Value).ownBlock ∧ some k_ ≠ (v199 : Value).ownBlock ∧ some k_ ≠ (v212 : Value).ownBlock) v215 t214) := ⟨h3_⟩
         have n4_ : Aside0 (w35.heap[gb190]? = some (.cells #[v199, .int .i64 t201] 51 (0, 0))) := ⟨h4_⟩
         have n5_ : Aside0 (w35.heap[gb206]? = some (.cells #[v215, .int .i64 t217] 51 (0, 0))) := ⟨h5_⟩
         have n6_ : Aside0 (w.heap.size ≤ gb190) := ⟨h6_⟩
         have n7_ : Aside0 (w.heap.size ≤ gb190) := ⟨h7_⟩
         have n8_ : Aside0 (gb206 ≠ gb190) := ⟨h8_⟩
         have n9_ : Aside0 (gb190 ≠ gb206) := ⟨h9_⟩
         have n10_ : Aside0 (w.heap.size ≤ gb206) := ⟨h10_⟩
         have n11_ : Aside0 (w.heap.size ≤ gb206) := ⟨h11_⟩
         have n12_ : Aside0 (Below w.heap.size w w35) := ⟨h12_⟩
         clear HB
         clear h0_ h1_ h2_ h3_ h4_ h5_ h6_ h7_ h8_ h9_ h10_ h11_ h12_
         have HO197 := n0_
         have HO200 := n1_
         have HO213 := n2_
         have HO216 := n3_
         have BK190 := n4_
         have BK206 := n5_
         have GW190 := n6_
         have GE190 := n7_
         have NB206_190 := n8_
         have NB190_206 := n9_
         have GW206 := n10_
         have GE206 := n11_
         have HB := n12_
         clear n0_ n1_ n2_ n3_ n4_ n5_ n6_ n7_ n8_ n9_ n10_ n11_ n12_
         have hHeld := trivial
         refine norm_ (a' := ?_) ?_ ?_
         rotate_left
         ·simp only [putAll, Act.put, List.setIfInBounds_toArray, List.set_cons_zero, List.set_cons_succ]
          rfl
         refine one_ (i := 9) (N := some 54) #[T,T,T,T,T,T,T,T,T,T,F,T,F,F] rfl rfl (one_of HT_.out (by kernel_rfl)) (by decide) (fun K hK => ?_)
         have hcv36 := own_string (P := Try.prog) Try.underlying24 Try.underlying5 Try.underlying9 (Kd.own_of_R HO213.out)
         refine value_ (w1 := ?_) (v := ?_) (by rfl) rfl ?_ ?_
         rotate_left 2
         ·go_simp
          constructor
          ·rfl
          ·rfl
         clear hcv36
         refine hK.out _ _ trivial (fun hHeld => ?_)
         clear hK K
         refine norm_ (a' := ?_) ?_ ?_
         rotate_left
         ·show Act.put _ (some 54) _ = _
          simp only [Act.put, List.setIfInBounds_toArray, List.set_cons_zero, List.set_cons_succ, i64_w, i32_w]
          rfl
         exact norm_ (by first | (simp only [putAll, Act.put, List.setIfInBounds_toArray, List.set_cons_zero, List.set_cons_succ]; done) | (simp only [putAll, Act.put, List.setIfInBounds_toArray, List.set_cons_zero, List.set_cons_succ]; rfl)) (hJ4_5_7_8_9 (v203, gb206, v208, v212, v215) _ ⟨(by (with_reducible repeat (first | apply Kd.R_alloc | apply Kd.R_drewN | apply Kd.R_drew)); exact HO197.out), (by (with_reducible repeat (first | apply Kd.R_alloc | apply Kd.R_drewN | apply Kd.R_drew)); exact HO200.out), (by (with_reducible repeat (first | apply Kd.R_alloc | apply Kd.R_drewN | apply Kd.R_drew)); exact HO213.out), (by (with_reducible repeat (first | apply Kd.R_alloc | apply Kd.R_drewN | apply Kd.R_drew)); exact HO216.out), (by (with_reducible repeat (first | refine blk_drewN ?_ _ | refine blk_drew ?_ | refine blk_alloc ?_ _)); exact BK190.out), (by (with_reducible repeat (first | refine blk_drewN ?_ _ | refine blk_drew ?_ | refine blk_alloc ?_ _)); exact BK206.out), GW190.out, GE190.out, NB206_190.out, NB190_206.out, GW206.out, GE206.out, (by repeat (first | (with_reducible first | exact HB.out | apply below_alloc | apply pw_below_drewN | apply below_drew1 | refine below_set ?_ GE190.out | refine below_set ?_ GE206.out) | exact HB.out))⟩)
       rintro ⟨v203, gb206, v208, v212, v215⟩ w36 ⟨h0_, h1_, h2_, h3_, h4_, h5_, h6_, h7_, h8_, h9_, h10_, h11_, h12_⟩
       have n0_ : Aside0 (Kd.R (Kd.int .u8) 5 w36 w.heap.size (fun k_ => some k_ ≠ (v199 : Value).ownBlock ∧ some k_ ≠ (v212 : Value).ownBlock ∧ some k_ ≠ (v215 : Value).ownBlock) v196 t195) := ⟨h0_⟩
       have n1_ : Aside0 (Kd.R (Kd.int .u8) 5 w36 w.heap.size (fun k_ => some k_ ≠ (v196 : Value).ownBlock ∧ some k_ ≠ (v212 : Value).ownBlock ∧ some k_ ≠ (v215 : Value).ownBlock) v199 t198) := ⟨h1_⟩
       have n2_ : Aside0 (Kd.R (Kd.int .u8) 5 w36 w.heap.size (fun k_ => some k_ ≠ (v196 : Value).ownBlock ∧ some k_ ≠ (v199 : Value).ownBlock ∧ some k_ ≠ (v215 : Value).ownBlock) v212 t211) := ⟨h2_⟩
       have n3_ : Aside0 (Kd.R (Kd.int .u8) 5 w36 w.heap.size (fun k_ => some k_ ≠ (v196 : Value).ownBlock ∧ some k_ ≠ (v199 : Value).ownBlock ∧ some k_ ≠ (v212 : Value).ownBlock) v215 t214) := ⟨h3_⟩
       have n4_ : Aside0 (w36.heap[gb190]? = some (.cells #[v199, .int .i64 t201] 51 (0, 0))) := ⟨h4_⟩
       have n5_ : Aside0 (w36.heap[gb206]? = some (.cells #[v215, .int .i64 t217] 51 (0, 0))) := ⟨h5_⟩
       have n6_ : Aside0 (w.heap.size ≤ gb190) := ⟨h6_⟩
       have n7_ : Aside0 (w.heap.size ≤ gb190) := ⟨h7_⟩
       have n8_ : Aside0 (gb206 ≠ gb190) := ⟨h8_⟩
       have n9_ : Aside0 (gb190 ≠ gb206) := ⟨h9_⟩
       have n10_ : Aside0 (w.heap.size ≤ gb206) := ⟨h10_⟩
       have n11_ : Aside0 (w.heap.size ≤ gb206) := ⟨h11_⟩
       have n12_ : Aside0 (Below w.heap.size w w36) := ⟨h12_⟩
       clear HB
       clear h0_ h1_ h2_ h3_ h4_ h5_ h6_ h7_ h8_ h9_ h10_ h11_ h12_
       have HO197 := n0_
       have HO200 := n1_
       have HO213 := n2_
       have HO216 := n3_
       have BK190 := n4_
       have BK206 := n5_
       have GW190 := n6_
       have GE190 := n7_
       have NB206_190 := n8_
       have NB190_206 := n9_
       have GW206 := n10_
       have GE206 := n11_
       have HB := n12_
       clear n0_ n1_ n2_ n3_ n4_ n5_ n6_ n7_ n8_ n9_ n10_ n11_ n12_
       have hHeld := trivial
       refine norm_ (a' := ?_) ?_ ?_
       rotate_left
       ·simp only [putAll, Act.put, List.setIfInBounds_toArray, List.set_cons_zero, List.set_cons_succ]
        rfl
       refine pure_ (i := 10) (N := some 55) (v := ?_) (a' := ?_) #[T,T,T,T,T,T,T,T,T,T,T,T,F,F] rfl rfl (any_of HT_.out (by kernel_rfl)) (fun _ _ _ h => h) (Or.inl ⟨by rfl, ?_⟩) ?_ ?_
       rotate_left
       ·intro w'
        go_simp
        with_reducible rfl
       rotate_left
       ·simp only [Act.put, List.setIfInBounds_toArray, List.set_cons_zero, List.set_cons_succ, i64_w, i32_w]
        rfl
       refine pure_ (i := 12) (N := some 57) (v := ?_) (a' := ?_) #[T,T,T,T,T,T,T,T,T,T,T,T,T,F] rfl rfl (any_of HT_.out (by kernel_rfl)) (fun _ _ _ h => h) (Or.inl ⟨by rfl, ?_⟩) ?_ ?_
       rotate_left
       ·intro w'
        go_simp
        with_reducible rfl
       rotate_left
       ·simp only [Act.put, List.setIfInBounds_toArray, List.set_cons_zero, List.set_cons_succ, i64_w, i32_w]
        rfl
       refine pure_ (i := 13) (N := some 4) (v := ?_) (a' := ?_) #[T,T,T,T,T,T,T,T,T,T,T,T,T,T] rfl rfl (any_of HT_.out (by kernel_rfl)) (fun _ _ _ h => h) (Or.inl ⟨by rfl, ?_⟩) ?_ ?_
       rotate_left
       ·intro w'
        go_simp
        with_reducible rfl
       rotate_left
       ·simp only [Act.put, List.setIfInBounds_toArray, List.set_cons_zero, List.set_cons_succ, i64_w, i32_w]
        rfl
       refine done_ (done_of HT_.out (by kernel_rfl)) ?_
       try go_wp2
       go_ret
       exact ⟨by first | rfl | (simp [errW_none, errW_some] <;> rfl) | (simp [*, errW_none, errW_some] <;> rfl), by repeat (first | (with_reducible first | exact HB.out | apply below_alloc | apply pw_below_drewN | apply below_drew1 | refine below_set ?_ GE190.out | refine below_set ?_ GE206.out) | exact HB.out)⟩

/-- THE ONE PURE STATEMENT of paybooklaw05_PackApart: yours. -/
def paybooklaw05_PackApart.Pure : Prop := ∀ (l0 : List Int) (l1 : List Int), l0.length ≤ maxLen → l0.length * 8 ≤ 140737488351232 → (∀ x ∈ l0, (Lit.int .i64 x).wf = true) → l1.length ≤ maxLen → l1.length * 8 ≤ 140737488351232 → (∀ x ∈ l1, (Lit.int .i64 x).wf = true) → ∃ k, paybooklaw05_PackApart.f k l0 l1 = some true
theorem paybooklaw05_PackApart.walk (P : paybooklaw05_PackApart.Pure) (a0 : Option Addr) (len0 cap0 : Nat) (z0 : List Int) (a1 : Option Addr) (len1 cap1 : Nat) (z1 : List Int) (w : World) (w0 : (a0 = none ∧ len0 = 0 ∧ cap0 = 0 ∧ z0 = []) ∨ ∃ x, a0 = some x ∧ len0 ≤ cap0 ∧ cap0 ≤ maxLen ∧ z0.length = cap0 ∧ (∀ i, i < z0.length → w.cell? (x.add i) = some (.int .i64 (z0.getD i 0))) ∧ ∀ n ∈ z0, (Lit.int .i64 n).wf = true) (y0 : len0 * 8 ≤ 140737488351232) (w1 : (a1 = none ∧ len1 = 0 ∧ cap1 = 0 ∧ z1 = []) ∨ ∃ x, a1 = some x ∧ len1 ≤ cap1 ∧ cap1 ≤ maxLen ∧ z1.length = cap1 ∧ (∀ i, i < z1.length → w.cell? (x.add i) = some (.int .i64 (z1.getD i 0))) ∧ ∀ n ∈ z1, (Lit.int .i64 n).wf = true) (y1 : len1 * 8 ≤ 140737488351232) :
  Calls Try.prog 3 #[.slice a0 len0 cap0, .slice a1 len1 cap1] w fun e w' => e = .returned (.bool true) ∧ Below w.heap.size w w' := by
 obtain ⟨l0, rfl, hr0, hm0, hw0, hc0⟩ := ReadsInt.ofRowC w0
 obtain ⟨l1, rfl, hr1, hm1, hw1, hc1⟩ := ReadsInt.ofRowC w1
 obtain ⟨k, h⟩ := P l0 l1 hm0 y0 hw0 hm1 y1 hw1
 refine (paybooklaw05_PackApart.calls k _ _ l0 _ _ l1 w (Kd.C_of_reads (d := (0 : Int)) (h1 := fun _ => rfl) hr0) hc0 (Kd.C_of_reads (d := (0 : Int)) (h1 := fun _ => rfl) hr1) hc1 h).mono ?_
 rintro e w' ⟨rfl, hd⟩
 exact ⟨rfl, hd⟩

end Go.Proofs.Ytinmndkhipfccaa.PA
