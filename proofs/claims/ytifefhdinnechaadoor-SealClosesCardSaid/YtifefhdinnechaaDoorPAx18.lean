-- printed by this workplace: wip/patchprint.py over the kit's print
import Derived.Test.YtifefhdinnechaaDoorPAx0
import Derived.Test.YtifefhdinnechaaDoorPAx2
import Derived.Test.YtifefhdinnechaaDoorPAx6
import Derived.Test.YtifefhdinnechaaDoorPAx8
import Derived.Test.YtifefhdinnechaaDoorPAx11
import Derived.Test.YtifefhdinnechaaDoorPAx15
import Derived.Test.YtifefhdinnechaaDoorPAx17
namespace Go.Proofs.YtifefhdinnechaaDoor.PA
open Go.RowKit Go.Proofs.YtifefhdinnechaaDoorW.PrintWords Go.Proofs.YtifefhdinnechaaDoorW.PrintLast Go.Proofs.YtifefhdinnechaaDoorW.PrintMore
attribute [local go_sem] max2_int min2_int max_two min_two max_three min_three max_four min_four   -- for this text's walks alone
set_option linter.unusedVariables false
set_option linter.unusedSimpArgs false

/-! ### paybooklaw06_SealCloses: function 7 -/
def paybooklaw06_SealCloses.j0 : Nat → Int → Int → List Int → List Int → Bool → Option (Bool)
 | 0, _, _, _, _, _ => none
 | k + 1, x0, x1, x2, x3, x26 => if x26 = true then ((paybooklaw06_awake.f k).bind fun t291 => (some t291)) else ((seal_Close.f k x0 x1 x2).bind fun t292 => (if ([] : List Int).length + t292.length < 140737488355328 then ((some (([] : List Int) ++ t292 : List Int)).bind fun y295 => (if y295.length + x3.length < 140737488355328 then ((seal_Open.f k x0 x1 (y295 ++ x3)).bind fun bt301 => ((seal_Age.f k x1 t292).bind fun bt306 => ((paybookref05_Close.f k x0 x1 x2).bind fun t308 => (if (strOfNums t292).toList = (strOfNums t308).toList then ((seal_Size.f (x2.length : Int)).bind fun t311 => (if t311 = (t292.length : Int) then (if bt301.2.2 = 0 then (if bt301.2.1 = (t292.length : Int) then (if (strOfNums bt301.1).toList = (strOfNums x2).toList then (if bt306.2 = 0 then (some (bt306.1 == x0)) else (some false)) else (some false)) else (some false)) else (some false)) else (some false))) else (some false))))) else (none))) else (none)))
def paybooklaw06_SealCloses.f (k : Nat) (a0 : Int) (a1 : Int) (l2 : List Int) (l3 : List Int) : Option (Bool) := (paybooklaw06_awake.f k).bind fun t290 => (if t290 = true then (if (l2.length : Int) > 300 then (paybooklaw06_SealCloses.j0 k a0 a1 l2 l3 true) else (paybooklaw06_SealCloses.j0 k a0 a1 l2 l3 (decide ((l3.length : Int) > 50)))) else (paybooklaw06_SealCloses.j0 k a0 a1 l2 l3 true))
theorem paybooklaw06_SealCloses.mono_l : ∀ k, (∀ y0 y1 y2 y3 y4, LeO (paybooklaw06_SealCloses.j0 k y0 y1 y2 y3 y4) (paybooklaw06_SealCloses.j0 (k + 1) y0 y1 y2 y3 y4))
 | 0 => fun _ _ _ _ _ r h => by simp [paybooklaw06_SealCloses.j0] at h
 | k + 1 => by
  have ih0 := paybooklaw06_SealCloses.mono_l k
  ·intro y0 y1 y2 y3 y4
   unfold paybooklaw06_SealCloses.j0
   repeat' first
   | (with_reducible exact ih0 _ _ _ _ _)
   | (with_reducible exact paybooklaw06_awake.mono _)
   | (with_reducible exact paybookref05_Close.mono _ _ _ _)
   | (with_reducible exact seal_Age.mono _ _ _)
   | (with_reducible exact seal_Close.mono _ _ _ _)
   | (with_reducible exact seal_Open.mono _ _ _ _)
   | (with_reducible exact LeO.refl _)
   | (with_reducible exact LeO.none _)
   | (with_reducible refine LeO.ite ?_ ?_)
   | (with_reducible refine LeO.bind ?_ (fun _ => ?_))
   | exact ih0 _ _ _ _ _
   | exact paybooklaw06_awake.mono _
   | exact paybookref05_Close.mono _ _ _ _
   | exact seal_Age.mono _ _ _
   | exact seal_Close.mono _ _ _ _
   | exact seal_Open.mono _ _ _ _
   | exact LeO.none _
   | refine LeO.ite ?_ ?_
   | refine LeO.bind ?_ (fun _ => ?_)
theorem paybooklaw06_SealCloses.mono : ∀ a0 a1 a2 a3 k, LeO (paybooklaw06_SealCloses.f k a0 a1 a2 a3) (paybooklaw06_SealCloses.f (k + 1) a0 a1 a2 a3) := by
 intro a0 a1 a2 a3 k
 have ih0 := paybooklaw06_SealCloses.mono_l k
 unfold paybooklaw06_SealCloses.f
 repeat' first
   | (with_reducible exact ih0 _ _ _ _ _)
   | (with_reducible exact paybooklaw06_awake.mono _)
   | (with_reducible exact paybookref05_Close.mono _ _ _ _)
   | (with_reducible exact seal_Age.mono _ _ _)
   | (with_reducible exact seal_Close.mono _ _ _ _)
   | (with_reducible exact seal_Open.mono _ _ _ _)
   | (with_reducible exact LeO.refl _)
   | (with_reducible exact LeO.none _)
   | (with_reducible refine LeO.ite ?_ ?_)
   | (with_reducible refine LeO.bind ?_ (fun _ => ?_))
   | exact ih0 _ _ _ _ _
   | exact paybooklaw06_awake.mono _
   | exact paybookref05_Close.mono _ _ _ _
   | exact seal_Age.mono _ _ _
   | exact seal_Close.mono _ _ _ _
   | exact seal_Open.mono _ _ _ _
   | exact LeO.none _
   | refine LeO.ite ?_ ?_
   | refine LeO.bind ?_ (fun _ => ?_)
def paybooklaw06_SealCloses.T6 : Bool × List (List Nat × List Nat) := (true, [([], []), ([0], [0]), ([], []), ([], []), ([], []), ([2, 3, 4], [2, 3, 4]), ([5], [5]), ([1, 6], [1, 6]), ([7, 5], [7]), ([8], [8]), ([9, 8], [8, 9]), ([10, 8, 8], [8, 10]), ([8], [8]), ([12, 8], [8, 12]), ([11, 13, 8], [8, 11, 13]), ([8, 14], [8, 14]), ([15, 11], [15]), ([16], [16]), ([17, 16], [16, 17]), ([16, 18], [16, 18]), ([19, 16], [19]), ([20], [20]), ([20], [20]), ([22, 20], [20, 22]), ([21, 23, 20], [20, 21, 23]), ([20, 24], [20, 24]), ([25, 20], [25]), ([26], [26]), ([27, 26], [26, 27]), ([26], [26]), ([29, 26], [26, 29]), ([28, 30, 26], [26, 28, 30]), ([26, 31], [26, 31]), ([32, 26], [32]), ([33], [33]), ([34, 33], [33, 34]), ([33, 35], [33, 35]), ([36, 33], [36]), ([37], [37]), ([37], [37]), ([38, 39, 37], [37, 38, 39]), ([37, 40], [37, 40]), ([41, 37, 0, 1, 2, 3, 4, 5, 6, 7, 8, 9, 10, 11, 12, 13, 14, 15, 16, 17, 18, 19, 20, 21, 22, 23, 24, 25, 26, 27, 28, 29, 30, 31, 32, 33, 34, 35, 36, 37, 38, 39, 40, 41], [41])])
def paybooklaw06_SealCloses.B6 : List Nat := [0, 1, 0, 0, 0, 28, 60, 127, 255, 511, 1023, 2047, 511, 4607, 16383, 32767, 65535, 131071, 262143, 524287, 1048575, 2097151, 2097151, 6291455, 16777215, 33554431, 67108863, 134217727, 268435455, 134217727, 671088639, 2147483647, 4294967295, 8589934591, 17179869183, 34359738367, 68719476735, 137438953471, 274877906943, 274877906943, 1099511627775, 2199023255551, 4398046511103]
theorem paybooklaw06_SealCloses.tab6 : rtab .any (opsOf Tryd.f7 6) = paybooklaw06_SealCloses.T6 := by kernel_rfl
theorem paybooklaw06_SealCloses.bits6 : waitsOk paybooklaw06_SealCloses.T6.2 paybooklaw06_SealCloses.B6 = true := by kernel_rfl
set_option maxHeartbeats 40000000 in
set_option maxRecDepth 100000 in
theorem paybooklaw06_SealCloses.calls (k : Nat) (a0 : Int) (a1 : Int) (A2 : Option Addr) (c2 : Nat) (l2 : List Int) (A3 : Option Addr) (c3 : Nat) (l3 : List Int) (w : World) (hr2 : Kd.C (Kd.int .u8) w A2 l2.length l2) (hc2 : l2.length ≤ c2) (hr3 : Kd.C (Kd.int .u8) w A3 l3.length l3) (hc3 : l3.length ≤ c3) (hrG0 : Kd.C (Kd.int .u32) w (some ⟨0, 0, none⟩) 16 gl0) (h : paybooklaw06_SealCloses.f k a0 a1 l2 l3 = some true) :
  Calls Tryd.prog 7 #[.int .u32 a0, .int .u32 a1, .slice A2 l2.length c2, .slice A3 l3.length c3] w fun e w' => e = .returned (.bool true) ∧ Below w.heap.size w w' := by
 have HR2 := Aside0.mk hr2
 have HC2 := Aside0.mk hc2
 clear hr2 hc2
 have HR3 := Aside0.mk hr3
 have HC3 := Aside0.mk hc3
 clear hr3 hc3
 have HRG0 := Aside0.mk hrG0
 clear hrG0
 have HB := Aside0.mk (Below.refl w.heap.size w)
 have H : ((paybooklaw06_awake.f k).bind fun t290 => (if t290 = true then (if (l2.length : Int) > 300 then (paybooklaw06_SealCloses.j0 k a0 a1 l2 l3 true) else (paybooklaw06_SealCloses.j0 k a0 a1 l2 l3 (decide ((l3.length : Int) > 50)))) else (paybooklaw06_SealCloses.j0 k a0 a1 l2 l3 true))) = some true := h
 clear h
 have HC5 := Aside0.mk H
 clear H
 go_enter Tryd.func7, Tryd.ntmps7
 go_upto_region 1 with (fail)
 go_cut [26] (fun v26 wc => ∃ (kq : Nat) (x26_4 : Bool), v26 = .bool x26_4 ∧ Aside0 (paybooklaw06_SealCloses.j0 kq a0 a1 l2 l3 x26_4 = some true) ∧ Aside0 (kq ≤ k) ∧ Aside0 (Below w.heap.size w wc))
 case first =>
  have H := HC5.out
  clear HC5
  replace H := Option.bind_eq_some_iff.mp H
  obtain ⟨t290, A60, H⟩ := H
  replace H : (if t290 = true then (if (l2.length : Int) > 300 then (paybooklaw06_SealCloses.j0 k a0 a1 l2 l3 true) else (paybooklaw06_SealCloses.j0 k a0 a1 l2 l3 (decide ((l3.length : Int) > 50)))) else (paybooklaw06_SealCloses.j0 k a0 a1 l2 l3 true)) = some true := H
  have A6 := Aside0.mk A60
  clear A60
  by_cases c7 : t290 = true
  ·subst c7
   have H1 : (if (l2.length : Int) > 300 then (paybooklaw06_SealCloses.j0 k a0 a1 l2 l3 true) else (paybooklaw06_SealCloses.j0 k a0 a1 l2 l3 (decide ((l3.length : Int) > 50)))) = some true := by rw [if_pos rfl] at H; exact H
   clear H
   have H := H1
   clear H1
   by_cases c8 : (l2.length : Int) > 300
   ·rw [if_pos c8] at H
    have c8b0 : decide (300 < (l2.length : Int)) = true := decide_eq_true c8
    have c8b1 : decide (300 < l2.length) = true := decide_eq_true (by omega)
    clear c8
    (first | (generalize hg_ : decide (300 < (l2.length : Int)) = bg_ at *; subst c8b0; have c8b0 := hg_; clear hg_) | rw [c8b0] | (simp only [i64_w, i32_w]; rw [c8b0]) | skip)
    have H' := Aside0.mk H
    clear H
    go_wp2_with (first | (go_at_call 8; (with_reducible refine (paybooklaw06_awake.calls k  true _ ?side1 A6.out).mono ?_); (case side1 => repeat (first | exact (Kd.C_below HRG0.out HB.out) | exact HRG0.out | (with_reducible refine Kd.C_alloc ?_ _) | (with_reducible refine Kd.C_drewN ?_ _) | (with_reducible refine Kd.C_drew ?_))); rintro e w9 ⟨rfl, hb⟩; have n0_ := Aside0.mk (below_step (by repeat (first | (with_reducible first | exact HB.out | apply below_alloc | apply pw_below_drewN | apply below_drew1) | exact HB.out)) hb); clear HB; have HB := n0_; clear n0_; (try clear hb); (try clear hb2); (try clear hk); (try clear hi)))
    go_meet
    case rel => exact ⟨_, (true), (by first | rfl | (simp; done) | (simp [*]; done)), H', ⟨by first | omega | exact Nat.le_refl _⟩, ⟨by repeat (first | (with_reducible first | exact HB.out | apply below_alloc | apply pw_below_drewN | apply below_drew1) | exact HB.out)⟩⟩
   ·rw [if_neg c8] at H
    have c8b0 : decide (300 < (l2.length : Int)) = false := decide_eq_false c8
    have c8b1 : decide (300 < l2.length) = false := decide_eq_false (by omega)
    clear c8
    (first | (generalize hg_ : decide (300 < (l2.length : Int)) = bg_ at *; subst c8b0; have c8b0 := hg_; clear hg_) | rw [c8b0] | (simp only [i64_w, i32_w]; rw [c8b0]) | skip)
    have H' := Aside0.mk H
    clear H
    go_wp2_with (first | (go_at_call 8; (with_reducible refine (paybooklaw06_awake.calls k  true _ ?side1 A6.out).mono ?_); (case side1 => repeat (first | exact (Kd.C_below HRG0.out HB.out) | exact HRG0.out | (with_reducible refine Kd.C_alloc ?_ _) | (with_reducible refine Kd.C_drewN ?_ _) | (with_reducible refine Kd.C_drew ?_))); rintro e w10 ⟨rfl, hb⟩; have n0_ := Aside0.mk (below_step (by repeat (first | (with_reducible first | exact HB.out | apply below_alloc | apply pw_below_drewN | apply below_drew1) | exact HB.out)) hb); clear HB; have HB := n0_; clear n0_; (try clear hb); (try clear hb2); (try clear hk); (try clear hi)))
    go_meet
    case rel => exact ⟨_, (decide ((l3.length : Int) > 50)), (by first | rfl | (simp; done) | (simp [*]; done)), H', ⟨by first | omega | exact Nat.le_refl _⟩, ⟨by repeat (first | (with_reducible first | exact HB.out | apply below_alloc | apply pw_below_drewN | apply below_drew1) | exact HB.out)⟩⟩
  ·replace c7 := Bool.eq_false_iff.mpr c7
   subst c7
   have H1 : (paybooklaw06_SealCloses.j0 k a0 a1 l2 l3 true) = some true := by rw [if_neg (show ¬ (false = true) by decide)] at H; exact H
   clear H
   have H := H1
   clear H1
   have H' := Aside0.mk H
   clear H
   go_wp2_with (first | (go_at_call 8; (with_reducible refine (paybooklaw06_awake.calls k  false _ ?side1 A6.out).mono ?_); (case side1 => repeat (first | exact (Kd.C_below HRG0.out HB.out) | exact HRG0.out | (with_reducible refine Kd.C_alloc ?_ _) | (with_reducible refine Kd.C_drewN ?_ _) | (with_reducible refine Kd.C_drew ?_))); rintro e w11 ⟨rfl, hb⟩; have n0_ := Aside0.mk (below_step (by repeat (first | (with_reducible first | exact HB.out | apply below_alloc | apply pw_below_drewN | apply below_drew1) | exact HB.out)) hb); clear HB; have HB := n0_; clear n0_; (try clear hb); (try clear hb2); (try clear hk); (try clear hi)))
   go_meet
   case rel => exact ⟨_, (true), (by first | rfl | (simp; done) | (simp [*]; done)), H', ⟨by first | omega | exact Nat.le_refl _⟩, ⟨by repeat (first | (with_reducible first | exact HB.out | apply below_alloc | apply pw_below_drewN | apply below_drew1) | exact HB.out)⟩⟩
 case rest =>
  clear HC5
  try clear c2
  try clear p2
  try clear c3
  try clear c7
  try clear c8
  try clear c8b0
  try clear c8b1
  obtain ⟨kq, x26_4, rfl, HA, HJ4, HB⟩ := hcut
  cases kq with
  | zero => exact absurd HA.out (by simp [paybooklaw06_SealCloses.j0])
  | succ kj4 =>
   have H := HA.out
   clear HA
   simp only [paybooklaw06_SealCloses.j0] at H
   by_cases c12 : x26_4 = true
   ·subst c12
    have H1 : ((paybooklaw06_awake.f kj4).bind fun t291 => (some t291)) = some true := by rw [if_pos rfl] at H; exact H
    clear H
    have H := H1
    clear H1
    replace H := Option.bind_eq_some_iff.mp H
    obtain ⟨t291, A130, H⟩ := H
    replace H : (some t291) = some true := H
    have A13 := Aside0.mk A130
    clear A130
    have HT_ := Option.some.inj H
    clear H
    (try (have HT_z_ := HT_; simp only [beq_true, beq_false, true_beq, false_beq, Bool.not_eq_true', Bool.not_eq_false', Bool.not_true, Bool.not_false] at HT_z_))
    go_wp2_with (first | (go_at_call 8; (with_reducible refine (paybooklaw06_awake.calls kj4  t291 _ ?side1 A13.out).mono ?_); (case side1 => repeat (first | exact (Kd.C_below HRG0.out HB.out) | exact HRG0.out | (with_reducible refine Kd.C_alloc ?_ _) | (with_reducible refine Kd.C_drewN ?_ _) | (with_reducible refine Kd.C_drew ?_))); rintro e w14 ⟨rfl, hb⟩; have n0_ := Aside0.mk (below_step (by repeat (first | (with_reducible first | exact HB.out | apply below_alloc | apply pw_below_drewN | apply below_drew1) | exact HB.out)) hb); clear HB; have HB := n0_; clear n0_; (try clear hb); (try clear hb2); (try clear hk); (try clear hi)))
    go_ret
    exact ⟨by first | rfl | (simp [errW_none, errW_some] <;> rfl) | (simp [*, errW_none, errW_some] <;> rfl), by repeat (first | (with_reducible first | exact HB.out | apply below_alloc | apply pw_below_drewN | apply below_drew1) | exact HB.out)⟩
   ·replace c12 := Bool.eq_false_iff.mpr c12
    subst c12
    have H1 : ((seal_Close.f kj4 a0 a1 l2).bind fun t292 => (if ([] : List Int).length + t292.length < 140737488355328 then ((some (([] : List Int) ++ t292 : List Int)).bind fun y295 => (if y295.length + l3.length < 140737488355328 then ((seal_Open.f kj4 a0 a1 (y295 ++ l3)).bind fun bt301 => ((seal_Age.f kj4 a1 t292).bind fun bt306 => ((paybookref05_Close.f kj4 a0 a1 l2).bind fun t308 => (if (strOfNums t292).toList = (strOfNums t308).toList then ((seal_Size.f (l2.length : Int)).bind fun t311 => (if t311 = (t292.length : Int) then (if bt301.2.2 = 0 then (if bt301.2.1 = (t292.length : Int) then (if (strOfNums bt301.1).toList = (strOfNums l2).toList then (if bt306.2 = 0 then (some (bt306.1 == a0)) else (some false)) else (some false)) else (some false)) else (some false)) else (some false))) else (some false))))) else (none))) else (none))) = some true := by rw [if_neg (show ¬ (false = true) by decide)] at H; exact H
    clear H
    have H := H1
    clear H1
    replace H := Option.bind_eq_some_iff.mp H
    obtain ⟨t292, A150, H⟩ := H
    replace H : (if ([] : List Int).length + t292.length < 140737488355328 then ((some (([] : List Int) ++ t292 : List Int)).bind fun y295 => (if y295.length + l3.length < 140737488355328 then ((seal_Open.f kj4 a0 a1 (y295 ++ l3)).bind fun bt301 => ((seal_Age.f kj4 a1 t292).bind fun bt306 => ((paybookref05_Close.f kj4 a0 a1 l2).bind fun t308 => (if (strOfNums t292).toList = (strOfNums t308).toList then ((seal_Size.f (l2.length : Int)).bind fun t311 => (if t311 = (t292.length : Int) then (if bt301.2.2 = 0 then (if bt301.2.1 = (t292.length : Int) then (if (strOfNums bt301.1).toList = (strOfNums l2).toList then (if bt306.2 = 0 then (some (bt306.1 == a0)) else (some false)) else (some false)) else (some false)) else (some false)) else (some false))) else (some false))))) else (none))) else (none)) = some true := H
    have A15 := Aside0.mk A150
    clear A150
    by_cases c16 : ([] : List Int).length + t292.length < 140737488355328
    ·rw [if_pos c16] at H
     have LMc16 := Aside0.mk c16
     clear c16
     obtain ⟨y295, hy295⟩ : ∃ y_ : List Int, y_ = (([] : List Int) ++ t292) := ⟨_, rfl⟩
     replace H : (if y295.length + l3.length < 140737488355328 then ((seal_Open.f kj4 a0 a1 (y295 ++ l3)).bind fun bt301 => ((seal_Age.f kj4 a1 t292).bind fun bt306 => ((paybookref05_Close.f kj4 a0 a1 l2).bind fun t308 => (if (strOfNums t292).toList = (strOfNums t308).toList then ((seal_Size.f (l2.length : Int)).bind fun t311 => (if t311 = (t292.length : Int) then (if bt301.2.2 = 0 then (if bt301.2.1 = (t292.length : Int) then (if (strOfNums bt301.1).toList = (strOfNums l2).toList then (if bt306.2 = 0 then (some (bt306.1 == a0)) else (some false)) else (some false)) else (some false)) else (some false)) else (some false))) else (some false))))) else (none)) = some true := by first | (rw [hy295]; with_reducible exact H) | (have H2_ := (Option.bind_some _ _).symm.trans H; rw [hy295]; with_reducible exact H2_) | (have H2_ := (Option.bind_some _ _).symm.trans H; with_reducible exact H2_) | with_reducible exact H | (rw [hy295]; exact H) | exact H
     have Ny295 := Aside0.mk hy295
     clear hy295
     by_cases c17 : y295.length + l3.length < 140737488355328
     ·rw [if_pos c17] at H
      have LMc17 := Aside0.mk c17
      clear c17
      obtain ⟨y298, hy298⟩ : ∃ y_ : List Int, y_ = (y295 ++ l3) := ⟨_, rfl⟩
      replace H : ((seal_Open.f kj4 a0 a1 y298).bind fun bt301 => ((seal_Age.f kj4 a1 t292).bind fun bt306 => ((paybookref05_Close.f kj4 a0 a1 l2).bind fun t308 => (if (strOfNums t292).toList = (strOfNums t308).toList then ((seal_Size.f (l2.length : Int)).bind fun t311 => (if t311 = (t292.length : Int) then (if bt301.2.2 = 0 then (if bt301.2.1 = (t292.length : Int) then (if (strOfNums bt301.1).toList = (strOfNums l2).toList then (if bt306.2 = 0 then (some (bt306.1 == a0)) else (some false)) else (some false)) else (some false)) else (some false)) else (some false))) else (some false))))) = some true := by first | (rw [hy298]; with_reducible exact H) | (have H2_ := (Option.bind_some _ _).symm.trans H; rw [hy298]; with_reducible exact H2_) | (have H2_ := (Option.bind_some _ _).symm.trans H; with_reducible exact H2_) | with_reducible exact H | (rw [hy298]; exact H) | exact H
      have Ny298 := Aside0.mk hy298
      clear hy298
      replace H := Option.bind_eq_some_iff.mp H
      obtain ⟨⟨t301, t302, t303⟩, A180, H⟩ := H
      replace H : ((seal_Age.f kj4 a1 t292).bind fun bt306 => ((paybookref05_Close.f kj4 a0 a1 l2).bind fun t308 => (if (strOfNums t292).toList = (strOfNums t308).toList then ((seal_Size.f (l2.length : Int)).bind fun t311 => (if t311 = (t292.length : Int) then (if t303 = 0 then (if t302 = (t292.length : Int) then (if (strOfNums t301).toList = (strOfNums l2).toList then (if bt306.2 = 0 then (some (bt306.1 == a0)) else (some false)) else (some false)) else (some false)) else (some false)) else (some false))) else (some false)))) = some true := H
      have A18 := Aside0.mk A180
      clear A180
      replace H := Option.bind_eq_some_iff.mp H
      obtain ⟨⟨t306, t307⟩, A190, H⟩ := H
      replace H : ((paybookref05_Close.f kj4 a0 a1 l2).bind fun t308 => (if (strOfNums t292).toList = (strOfNums t308).toList then ((seal_Size.f (l2.length : Int)).bind fun t311 => (if t311 = (t292.length : Int) then (if t303 = 0 then (if t302 = (t292.length : Int) then (if (strOfNums t301).toList = (strOfNums l2).toList then (if t307 = 0 then (some (t306 == a0)) else (some false)) else (some false)) else (some false)) else (some false)) else (some false))) else (some false))) = some true := H
      have A19 := Aside0.mk A190
      clear A190
      replace H := Option.bind_eq_some_iff.mp H
      obtain ⟨t308, A200, H⟩ := H
      replace H : (if (strOfNums t292).toList = (strOfNums t308).toList then ((seal_Size.f (l2.length : Int)).bind fun t311 => (if t311 = (t292.length : Int) then (if t303 = 0 then (if t302 = (t292.length : Int) then (if (strOfNums t301).toList = (strOfNums l2).toList then (if t307 = 0 then (some (t306 == a0)) else (some false)) else (some false)) else (some false)) else (some false)) else (some false))) else (some false)) = some true := H
      have A20 := Aside0.mk A200
      clear A200
      by_cases c21 : (strOfNums t292).toList = (strOfNums t308).toList
      ·rw [if_pos c21] at H
       have c21b0 : ((strOfNums t292).toList == (strOfNums t308).toList) = true := beq_iff_eq.mpr c21
       have c21b1 : ((strOfNums t292).toList != (strOfNums t308).toList) = false := bne_eq_false_iff_eq.mpr c21
       clear c21
       replace H := Option.bind_eq_some_iff.mp H
       obtain ⟨t311, A220, H⟩ := H
       replace H : (if t311 = (t292.length : Int) then (if t303 = 0 then (if t302 = (t292.length : Int) then (if (strOfNums t301).toList = (strOfNums l2).toList then (if t307 = 0 then (some (t306 == a0)) else (some false)) else (some false)) else (some false)) else (some false)) else (some false)) = some true := H
       have A22 := Aside0.mk A220
       clear A220
       by_cases c23 : t311 = (t292.length : Int)
       ·rw [if_pos c23] at H
        have c23b0 : (t311 == (t292.length : Int)) = true := beq_iff_eq.mpr c23
        have c23b1 : (t311 != (t292.length : Int)) = false := bne_eq_false_iff_eq.mpr c23
        clear c23
        by_cases c24 : t303 = 0
        ·rw [if_pos c24] at H
         have c24b0 : (t303 == 0) = true := beq_iff_eq.mpr c24
         have c24b1 : (t303 != 0) = false := bne_eq_false_iff_eq.mpr c24
         clear c24
         by_cases c25 : t302 = (t292.length : Int)
         ·rw [if_pos c25] at H
          have c25b0 : (t302 == (t292.length : Int)) = true := beq_iff_eq.mpr c25
          have c25b1 : (t302 != (t292.length : Int)) = false := bne_eq_false_iff_eq.mpr c25
          clear c25
          by_cases c26 : (strOfNums t301).toList = (strOfNums l2).toList
          ·rw [if_pos c26] at H
           have c26b0 : ((strOfNums t301).toList == (strOfNums l2).toList) = true := beq_iff_eq.mpr c26
           have c26b1 : ((strOfNums t301).toList != (strOfNums l2).toList) = false := bne_eq_false_iff_eq.mpr c26
           clear c26
           by_cases c27 : t307 = 0
           ·rw [if_pos c27] at H
            have c27b0 : (t307 == 0) = true := beq_iff_eq.mpr c27
            have c27b1 : (t307 != 0) = false := bne_eq_false_iff_eq.mpr c27
            clear c27
            have HT_ := Option.some.inj H
            clear H
            (try (have HT_z_ := HT_; simp only [beq_true, beq_false, true_beq, false_beq, Bool.not_eq_true', Bool.not_eq_false', Bool.not_true, Bool.not_false] at HT_z_))
            try go_wp2_with (first | ((with_reducible refine gate_callee (f := 13) rfl ?_); refine goesL_ (some 31) rfl rfl Tryd.func13 (by kernel_rfl) rfl #[.int .u32 a0, .int .u32 a1, .slice A2 l2.length c2] rfl (by (try simp only [List.map_toArray, List.map_cons, List.map_nil]); first | done | rfl | (simp only [List.length_drop, List.length_take]; rfl)) ?_; (with_reducible refine (seal_Close.calls kj4 a0 a1 _ _ l2 t292 _ ?side1 ?side2 ?side3 A15.out).mono ?_); (case side1 => repeat (first | exact (Kd.C_below HR2.out HB.out) | exact HR2.out | (with_reducible refine Kd.C_alloc ?_ _) | (with_reducible refine Kd.C_drewN ?_ _) | (with_reducible refine Kd.C_drew ?_))); (case side2 => exact HC2.out); (case side3 => repeat (first | exact (Kd.C_below HRG0.out HB.out) | exact HRG0.out | (with_reducible refine Kd.C_alloc ?_ _) | (with_reducible refine Kd.C_drewN ?_ _) | (with_reducible refine Kd.C_drew ?_))); rintro e w28 ⟨v293, rfl, ho0, hb⟩; refine ⟨_, rfl, ?_⟩; have n0_ := Aside0.mk (Kd.R_lower ho0 (below_size (by repeat (first | (with_reducible first | exact HB.out | apply below_alloc | apply pw_below_drewN | apply below_drew1) | exact HB.out)))); have n1_ := Aside0.mk (below_step (by repeat (first | (with_reducible first | exact HB.out | apply below_alloc | apply pw_below_drewN | apply below_drew1) | exact HB.out)) hb); clear HB; have HO294 := n0_; have HB := n1_; clear n0_ n1_; (try clear hb); (try clear hb2); (try clear hk); (try clear hi); (try clear ho0); obtain ⟨Ao30, co30, eo30⟩ := Kd.R_slice HO294.out; subst eo30) | ((with_reducible refine gate_builtin (b := .append) (xs := #[.const (.slice none 0 0), .tmp 35]) rfl ?_); (try (refine gate_guard (by rfl) ?_; dsimp only)); at_builtin; refine Kd.R_append_rows (Kd.int .u8) (w0 := w) w.heap.size rfl (.const (.slice none 0 0)) (.tmp 35) 22 5 (.int .u8 0) 1 rfl Tryd.underlying22 info5 rfl (by decide) (by omega) (.slice none 0 0) ([] : List Int) t292 _ _ _ (fun k_ => some k_ ≠ (.slice Ao30 t292.length co30 : Value).ownBlock) (fun _ => False) rfl rfl ?aO ?aR (fun _ _ h => h) (fun _ h => h.elim) ?aF ?aB ?aS ?aL ?_; (case aR => repeat (first | exact (Kd.R_reads' HO294.out).2.2 | (with_reducible refine Kd.C_alloc ?_ _) | (with_reducible refine Kd.C_drewN ?_ _) | (with_reducible refine Kd.C_drew ?_))); (case aB => exact (by repeat (first | (with_reducible first | exact HB.out | apply below_alloc | apply pw_below_drewN | apply below_drew1) | exact HB.out))); (case aF => exact (fun k_ hk => Kd.fresh' (Kd.R_lt (by (with_reducible repeat (first | apply Kd.R_alloc | apply Kd.R_drewN | apply Kd.R_drew)); exact HO294.out)) k_ hk)); (case aO => exact ((Kd.R_nil _ _ _ _ (fun k_ => some k_ ≠ (.slice Ao30 t292.length co30 : Value).ownBlock)))); (case aS => exact (below_size (by repeat (first | (with_reducible first | exact HB.out | apply below_alloc | apply pw_below_drewN | apply below_drew1) | exact HB.out)))); (case aL => have := LMc16.out; omega); intro v296 w29 ho hb hg hat; rw [← Ny295.out] at ho; have n0_ := Aside0.mk (Kd.R_after (Kd.R_apart_nil (by (with_reducible repeat (first | apply Kd.R_alloc | apply Kd.R_drewN | apply Kd.R_drew)); exact HO294.out)) hg hat); have n1_ := Aside0.mk (hb); have n2_ := Aside0.mk (ho); clear HO294; clear HB; have HO294 := n0_; have HB := n1_; have HO297 := n2_; clear n0_ n1_ n2_; clear ho hb hg hat) | ((with_reducible refine gate_builtin (b := .append) (xs := #[.tmp 36, .tmp 37]) rfl ?_); (try (refine gate_guard (by rfl) ?_; dsimp only)); at_builtin; refine Kd.R_append_rows (Kd.int .u8) (w0 := w) w.heap.size rfl (.tmp 36) (.tmp 37) 22 5 (.int .u8 0) 1 rfl Tryd.underlying22 info5 rfl (by decide) (by omega) v296 y295 l3 _ _ _ (fun k_ => some k_ ≠ (.slice Ao30 t292.length co30 : Value).ownBlock) (fun _ => False) rfl rfl ?aO ?aR (fun _ _ h => h) (fun _ h => h.elim) ?aF ?aB ?aS ?aL ?_; (case aR => repeat (first | exact (Kd.C_below HR3.out HB.out) | exact HR3.out | (with_reducible refine Kd.C_alloc ?_ _) | (with_reducible refine Kd.C_drewN ?_ _) | (with_reducible refine Kd.C_drew ?_))); (case aB => exact (by repeat (first | (with_reducible first | exact HB.out | apply below_alloc | apply pw_below_drewN | apply below_drew1) | exact HB.out))); (case aF => exact (fun k_ hk => Kd.fresh' (Kd.R_lt (by (with_reducible repeat (first | apply Kd.R_alloc | apply Kd.R_drewN | apply Kd.R_drew)); exact HO294.out)) k_ hk)); (case aO => exact (by (with_reducible repeat (first | apply Kd.R_alloc | apply Kd.R_drewN | apply Kd.R_drew)); exact HO297.out)); (case aS => exact (below_size (by repeat (first | (with_reducible first | exact HB.out | apply below_alloc | apply pw_below_drewN | apply below_drew1) | exact HB.out)))); (case aL => have := LMc17.out; omega); intro v299 w31 ho hb hg hat; rw [← Ny298.out] at ho; have n0_ := Aside0.mk (Kd.R_after (ok := (fun _ => True)) (by (with_reducible repeat (first | apply Kd.R_alloc | apply Kd.R_drewN | apply Kd.R_drew)); exact HO294.out) hg hat); have n1_ := Aside0.mk (hb); have n2_ := Aside0.mk (ho); clear HO294; clear HB; clear HO297; have HO294 := n0_; have HB := n1_; have HO300 := n2_; clear n0_ n1_ n2_; clear ho hb hg hat; obtain ⟨Ao32, co32, eo32⟩ := Kd.R_slice HO300.out; subst eo32) | ((with_reducible refine gate_callee (f := 12) rfl ?_); refine goesL_ (some 39) rfl rfl Tryd.func12 (by kernel_rfl) rfl #[.int .u32 a0, .int .u32 a1, .slice Ao32 y298.length co32] rfl (by (try simp only [List.map_toArray, List.map_cons, List.map_nil]); first | done | rfl | (simp only [List.length_drop, List.length_take]; rfl)) ?_; (with_reducible refine (seal_Open.calls kj4 a0 a1 _ _ y298 t301 t302 t303 _ ?side1 ?side2 ?side3 A18.out).mono ?_); (case side1 => repeat (first | exact (Kd.R_reads' HO300.out).2.2 | (with_reducible refine Kd.C_alloc ?_ _) | (with_reducible refine Kd.C_drewN ?_ _) | (with_reducible refine Kd.C_drew ?_))); (case side2 => exact (Kd.R_reads' HO300.out).2.1); (case side3 => repeat (first | exact (Kd.C_below HRG0.out HB.out) | exact HRG0.out | (with_reducible refine Kd.C_alloc ?_ _) | (with_reducible refine Kd.C_drewN ?_ _) | (with_reducible refine Kd.C_drew ?_))); rintro e w33 ⟨v304, rfl, ho0, hb⟩; refine ⟨_, rfl, ?_⟩; have n0_ := Aside0.mk (Kd.R_elder' (by (with_reducible repeat (first | apply Kd.R_alloc | apply Kd.R_drewN | apply Kd.R_drew)); exact HO294.out) (Kd.R_base ho0) hb); have n1_ := Aside0.mk (Kd.R_elder' (by (with_reducible repeat (first | apply Kd.R_alloc | apply Kd.R_drewN | apply Kd.R_drew)); exact HO300.out) (Kd.R_base ho0) hb); have n2_ := Aside0.mk (Kd.R_lower (Kd.R_new' (Kd.R_new' ho0 (Kd.R_lt (by (with_reducible repeat (first | apply Kd.R_alloc | apply Kd.R_drewN | apply Kd.R_drew)); exact HO294.out))) (Kd.R_lt (by (with_reducible repeat (first | apply Kd.R_alloc | apply Kd.R_drewN | apply Kd.R_drew)); exact HO300.out))) (below_size (by repeat (first | (with_reducible first | exact HB.out | apply below_alloc | apply pw_below_drewN | apply below_drew1) | exact HB.out)))); have n3_ := Aside0.mk (below_step (by repeat (first | (with_reducible first | exact HB.out | apply below_alloc | apply pw_below_drewN | apply below_drew1) | exact HB.out)) hb); clear HO294; clear HO300; clear HB; have HO294 := n0_; have HO300 := n1_; have HO305 := n2_; have HB := n3_; clear n0_ n1_ n2_ n3_; (try clear hb); (try clear hb2); (try clear hk); (try clear hi); (try clear ho0)) | ((with_reducible refine gate_callee (f := 15) rfl ?_); refine goesL_ (some 46) rfl rfl Tryd.func15 (by kernel_rfl) rfl #[.int .u32 a1, .slice Ao30 t292.length co30] rfl (by (try simp only [List.map_toArray, List.map_cons, List.map_nil]); first | done | rfl | (simp only [List.length_drop, List.length_take]; rfl)) ?_; (with_reducible refine (seal_Age.calls kj4 a1 _ _ t292 t306 t307 _ ?side1 ?side2 ?side3 A19.out).mono ?_); (case side1 => repeat (first | exact (Kd.R_reads' HO294.out).2.2 | (with_reducible refine Kd.C_alloc ?_ _) | (with_reducible refine Kd.C_drewN ?_ _) | (with_reducible refine Kd.C_drew ?_))); (case side2 => exact (Kd.R_reads' HO294.out).2.1); (case side3 => repeat (first | exact (Kd.C_below HRG0.out HB.out) | exact HRG0.out | (with_reducible refine Kd.C_alloc ?_ _) | (with_reducible refine Kd.C_drewN ?_ _) | (with_reducible refine Kd.C_drew ?_))); rintro e w34 ⟨rfl, hb⟩; refine ⟨_, rfl, ?_⟩; have n0_ := Aside0.mk (Kd.R_below (by (with_reducible repeat (first | apply Kd.R_alloc | apply Kd.R_drewN | apply Kd.R_drew)); exact HO294.out) hb); have n1_ := Aside0.mk (Kd.R_below (by (with_reducible repeat (first | apply Kd.R_alloc | apply Kd.R_drewN | apply Kd.R_drew)); exact HO300.out) hb); have n2_ := Aside0.mk (Kd.R_below (by (with_reducible repeat (first | apply Kd.R_alloc | apply Kd.R_drewN | apply Kd.R_drew)); exact HO305.out) hb); have n3_ := Aside0.mk (below_step (by repeat (first | (with_reducible first | exact HB.out | apply below_alloc | apply pw_below_drewN | apply below_drew1) | exact HB.out)) hb); clear HO294; clear HO300; clear HO305; clear HB; have HO294 := n0_; have HO300 := n1_; have HO305 := n2_; have HB := n3_; clear n0_ n1_ n2_ n3_; (try clear hb); (try clear hb2); (try clear hk); (try clear hi)))
            have n0_ := Aside0.mk (Kd.R_drew HO294.out)
            have n1_ := Aside0.mk (Kd.R_drew HO300.out)
            have n2_ := Aside0.mk (Kd.R_drew HO305.out)
            have n3_ := Aside0.mk (below_drew1 HB.out)
            clear HO294
            clear HO300
            clear HO305
            clear HB
            have HO294 := n0_
            have HO300 := n1_
            have HO305 := n2_
            have HB := n3_
            clear n0_ n1_ n2_ n3_
            refine start_ (n := 43) (S := fun w' => True) (ds := []) #[F,F,F,F,F,F,F,F,F,F,F,F,F,F,F,F,F,F,F,F,F,F,F,F,F,F,F,F,F,F,F,F,F,F,F,F,F,F,F,F,F,F,F] (by kernel_rfl) rfl rfl trivial (fun hHeld => ?_); refine with_tabW paybooklaw06_SealCloses.tab6 paybooklaw06_SealCloses.bits6 (fun HT_ HW_ => ?_)
            generalize w34.drew = w35 at HO294 HO300 HO305 HB hHeld ⊢
            refine pure_ (i := 0) (N := some 49) (v := ?_) (a' := ?_) #[T,F,F,F,F,F,F,F,F,F,F,F,F,F,F,F,F,F,F,F,F,F,F,F,F,F,F,F,F,F,F,F,F,F,F,F,F,F,F,F,F,F,F] rfl rfl (any_of HT_.out (by kernel_rfl)) (fun _ _ _ h => h) (Or.inl ⟨by rfl, ?_⟩) ?_ ?_
            rotate_left
            ·intro w'
             go_simp
             with_reducible rfl
            rotate_left
            ·simp only [Act.put, List.setIfInBounds_toArray, List.set_cons_zero, List.set_cons_succ, i64_w, i32_w]
             rfl
            refine pure_ (i := 2) (N := some 51) (v := ?_) (a' := ?_) #[T,F,T,F,F,F,F,F,F,F,F,F,F,F,F,F,F,F,F,F,F,F,F,F,F,F,F,F,F,F,F,F,F,F,F,F,F,F,F,F,F,F,F] rfl rfl (any_of HT_.out (by kernel_rfl)) (fun _ _ _ h => h) (Or.inl ⟨by rfl, ?_⟩) ?_ ?_
            rotate_left
            ·intro w'
             go_simp
             with_reducible rfl
            rotate_left
            ·simp only [Act.put, List.setIfInBounds_toArray, List.set_cons_zero, List.set_cons_succ, i64_w, i32_w]
             rfl
            refine pure_ (i := 3) (N := some 52) (v := ?_) (a' := ?_) #[T,F,T,T,F,F,F,F,F,F,F,F,F,F,F,F,F,F,F,F,F,F,F,F,F,F,F,F,F,F,F,F,F,F,F,F,F,F,F,F,F,F,F] rfl rfl (any_of HT_.out (by kernel_rfl)) (fun _ _ _ h => h) (Or.inl ⟨by rfl, ?_⟩) ?_ ?_
            rotate_left
            ·intro w'
             go_simp
             with_reducible rfl
            rotate_left
            ·simp only [Act.put, List.setIfInBounds_toArray, List.set_cons_zero, List.set_cons_succ, i64_w, i32_w]
             rfl
            refine pure_ (i := 4) (N := some 53) (v := ?_) (a' := ?_) #[T,F,T,T,T,F,F,F,F,F,F,F,F,F,F,F,F,F,F,F,F,F,F,F,F,F,F,F,F,F,F,F,F,F,F,F,F,F,F,F,F,F,F] rfl rfl (any_of HT_.out (by kernel_rfl)) (fun _ _ _ h => h) (Or.inl ⟨by rfl, ?_⟩) ?_ ?_
            rotate_left
            ·intro w'
             go_simp
             with_reducible rfl
            rotate_left
            ·simp only [Act.put, List.setIfInBounds_toArray, List.set_cons_zero, List.set_cons_succ, i64_w, i32_w]
             rfl
            refine join_ (σ := Value) 12 #[T,T,T,T,T,T,T,T,T,T,T,T,T,T,T,T,T,T,T,T,T,T,T,T,T,T,T,T,T,T,T,F,F,F,F,F,F,F,F,F,F,F,F] (fun s_ => [(50, .string (strOfNums t292)), (54, s_), (55, .string (strOfNums t308)), (60, .int .i64 t311), (77, .string (strOfNums t301)), (79, .string (strOfNums l2)), (56, .bool true), (57, .bool true), (58, .slice A2 l2.length c2), (59, .int .i64 (l2.length : Int)), (61, .slice Ao30 t292.length co30), (62, .int .i64 (t292.length : Int)), (63, .bool true), (64, .bool true), (65, .bool true), (66, .int .i64 t303), (67, .bool true), (68, .bool true), (69, .bool true), (70, .int .i64 t302), (71, .slice Ao30 t292.length co30), (72, .int .i64 (t292.length : Int)), (73, .bool true), (74, .bool true), (75, .bool true), (76, v304), (78, .slice A2 l2.length c2)]) (fun s_ w' => (Kd.R (Kd.int .u8) 5 w' w.heap.size (fun k_ => some k_ ≠ (.slice Ao32 y298.length co32 : Value).ownBlock ∧ some k_ ≠ (v304 : Value).ownBlock ∧ some k_ ≠ (s_ : Value).ownBlock) (.slice Ao30 t292.length co30) t292) ∧ (Kd.R (Kd.int .u8) 5 w' w.heap.size (fun k_ => some k_ ≠ (.slice Ao30 t292.length co30 : Value).ownBlock ∧ some k_ ≠ (v304 : Value).ownBlock ∧ some k_ ≠ (s_ : Value).ownBlock) (.slice Ao32 y298.length co32) y298) ∧ (Kd.R (Kd.int .u8) 5 w' w.heap.size (fun k_ => some k_ ≠ (.slice Ao30 t292.length co30 : Value).ownBlock ∧ some k_ ≠ (.slice Ao32 y298.length co32 : Value).ownBlock ∧ some k_ ≠ (s_ : Value).ownBlock) v304 t301) ∧ (Kd.R (Kd.int .u8) 5 w' w.heap.size (fun k_ => some k_ ≠ (.slice Ao30 t292.length co30 : Value).ownBlock ∧ some k_ ≠ (.slice Ao32 y298.length co32 : Value).ownBlock ∧ some k_ ≠ (v304 : Value).ownBlock) s_ t308) ∧ (Below w.heap.size w w')) ?_ ?_
            rotate_left
            ·intro hJ1_5_6_11_28_30
             refine join_ (σ := Value) 13 #[T,T,T,T,T,T,T,T,T,T,T,T,T,T,T,T,T,T,T,T,T,T,T,T,T,T,T,T,T,T,F,F,F,F,F,F,F,F,F,F,F,F,F] (fun s_ => [(50, .string (strOfNums t292)), (54, s_), (55, .string (strOfNums t308)), (60, .int .i64 t311), (77, .string (strOfNums t301)), (56, .bool true), (57, .bool true), (58, .slice A2 l2.length c2), (59, .int .i64 (l2.length : Int)), (61, .slice Ao30 t292.length co30), (62, .int .i64 (t292.length : Int)), (63, .bool true), (64, .bool true), (65, .bool true), (66, .int .i64 t303), (67, .bool true), (68, .bool true), (69, .bool true), (70, .int .i64 t302), (71, .slice Ao30 t292.length co30), (72, .int .i64 (t292.length : Int)), (73, .bool true), (74, .bool true), (75, .bool true), (76, v304), (78, .slice A2 l2.length c2)]) (fun s_ w' => (Kd.R (Kd.int .u8) 5 w' w.heap.size (fun k_ => some k_ ≠ (.slice Ao32 y298.length co32 : Value).ownBlock ∧ some k_ ≠ (v304 : Value).ownBlock ∧ some k_ ≠ (s_ : Value).ownBlock) (.slice Ao30 t292.length co30) t292) ∧ (Kd.R (Kd.int .u8) 5 w' w.heap.size (fun k_ => some k_ ≠ (.slice Ao30 t292.length co30 : Value).ownBlock ∧ some k_ ≠ (v304 : Value).ownBlock ∧ some k_ ≠ (s_ : Value).ownBlock) (.slice Ao32 y298.length co32) y298) ∧ (Kd.R (Kd.int .u8) 5 w' w.heap.size (fun k_ => some k_ ≠ (.slice Ao30 t292.length co30 : Value).ownBlock ∧ some k_ ≠ (.slice Ao32 y298.length co32 : Value).ownBlock ∧ some k_ ≠ (s_ : Value).ownBlock) v304 t301) ∧ (Kd.R (Kd.int .u8) 5 w' w.heap.size (fun k_ => some k_ ≠ (.slice Ao30 t292.length co30 : Value).ownBlock ∧ some k_ ≠ (.slice Ao32 y298.length co32 : Value).ownBlock ∧ some k_ ≠ (v304 : Value).ownBlock) s_ t308) ∧ (Below w.heap.size w w')) ?_ ?_
             rotate_left
             ·intro hJ1_5_6_11_28
              refine join_ (σ := Value) 13 #[T,T,T,T,T,T,T,T,T,T,T,T,T,T,T,T,T,T,T,T,T,T,T,T,T,T,T,T,F,T,T,F,F,F,F,F,F,F,F,F,F,F,F] (fun s_ => [(50, .string (strOfNums t292)), (54, s_), (55, .string (strOfNums t308)), (60, .int .i64 t311), (79, .string (strOfNums l2)), (56, .bool true), (57, .bool true), (58, .slice A2 l2.length c2), (59, .int .i64 (l2.length : Int)), (61, .slice Ao30 t292.length co30), (62, .int .i64 (t292.length : Int)), (63, .bool true), (64, .bool true), (65, .bool true), (66, .int .i64 t303), (67, .bool true), (68, .bool true), (69, .bool true), (70, .int .i64 t302), (71, .slice Ao30 t292.length co30), (72, .int .i64 (t292.length : Int)), (73, .bool true), (74, .bool true), (75, .bool true), (76, v304), (78, .slice A2 l2.length c2)]) (fun s_ w' => (Kd.R (Kd.int .u8) 5 w' w.heap.size (fun k_ => some k_ ≠ (.slice Ao32 y298.length co32 : Value).ownBlock ∧ some k_ ≠ (v304 : Value).ownBlock ∧ some k_ ≠ (s_ : Value).ownBlock) (.slice Ao30 t292.length co30) t292) ∧ (Kd.R (Kd.int .u8) 5 w' w.heap.size (fun k_ => some k_ ≠ (.slice Ao30 t292.length co30 : Value).ownBlock ∧ some k_ ≠ (v304 : Value).ownBlock ∧ some k_ ≠ (s_ : Value).ownBlock) (.slice Ao32 y298.length co32) y298) ∧ (Kd.R (Kd.int .u8) 5 w' w.heap.size (fun k_ => some k_ ≠ (.slice Ao30 t292.length co30 : Value).ownBlock ∧ some k_ ≠ (.slice Ao32 y298.length co32 : Value).ownBlock ∧ some k_ ≠ (s_ : Value).ownBlock) v304 t301) ∧ (Kd.R (Kd.int .u8) 5 w' w.heap.size (fun k_ => some k_ ≠ (.slice Ao30 t292.length co30 : Value).ownBlock ∧ some k_ ≠ (.slice Ao32 y298.length co32 : Value).ownBlock ∧ some k_ ≠ (v304 : Value).ownBlock) s_ t308) ∧ (Below w.heap.size w w')) ?_ ?_
              rotate_left
              ·intro hJ1_5_6_11_30
               refine join_ (σ := Value) 14 #[T,T,T,T,T,T,T,T,T,T,T,T,T,T,T,T,T,T,T,T,T,T,T,T,T,T,T,T,F,T,F,F,F,F,F,F,F,F,F,F,F,F,F] (fun s_ => [(50, .string (strOfNums t292)), (54, s_), (55, .string (strOfNums t308)), (60, .int .i64 t311), (56, .bool true), (57, .bool true), (58, .slice A2 l2.length c2), (59, .int .i64 (l2.length : Int)), (61, .slice Ao30 t292.length co30), (62, .int .i64 (t292.length : Int)), (63, .bool true), (64, .bool true), (65, .bool true), (66, .int .i64 t303), (67, .bool true), (68, .bool true), (69, .bool true), (70, .int .i64 t302), (71, .slice Ao30 t292.length co30), (72, .int .i64 (t292.length : Int)), (73, .bool true), (74, .bool true), (75, .bool true), (76, v304), (78, .slice A2 l2.length c2)]) (fun s_ w' => (Kd.R (Kd.int .u8) 5 w' w.heap.size (fun k_ => some k_ ≠ (.slice Ao32 y298.length co32 : Value).ownBlock ∧ some k_ ≠ (v304 : Value).ownBlock ∧ some k_ ≠ (s_ : Value).ownBlock) (.slice Ao30 t292.length co30) t292) ∧ (Kd.R (Kd.int .u8) 5 w' w.heap.size (fun k_ => some k_ ≠ (.slice Ao30 t292.length co30 : Value).ownBlock ∧ some k_ ≠ (v304 : Value).ownBlock ∧ some k_ ≠ (s_ : Value).ownBlock) (.slice Ao32 y298.length co32) y298) ∧ (Kd.R (Kd.int .u8) 5 w' w.heap.size (fun k_ => some k_ ≠ (.slice Ao30 t292.length co30 : Value).ownBlock ∧ some k_ ≠ (.slice Ao32 y298.length co32 : Value).ownBlock ∧ some k_ ≠ (s_ : Value).ownBlock) v304 t301) ∧ (Kd.R (Kd.int .u8) 5 w' w.heap.size (fun k_ => some k_ ≠ (.slice Ao30 t292.length co30 : Value).ownBlock ∧ some k_ ≠ (.slice Ao32 y298.length co32 : Value).ownBlock ∧ some k_ ≠ (v304 : Value).ownBlock) s_ t308) ∧ (Below w.heap.size w w')) ?_ ?_
               rotate_left
               ·intro hJ1_5_6_11
                refine join_ (σ := Value) 30 #[T,T,T,T,T,T,T,T,T,T,T,F,T,T,F,F,F,F,F,F,F,F,F,F,F,F,F,F,F,F,F,F,F,F,F,F,F,F,F,F,F,F,F] (fun s_ => [(50, .string (strOfNums t292)), (54, s_), (55, .string (strOfNums t308)), (56, .bool true), (57, .bool true), (58, .slice A2 l2.length c2), (59, .int .i64 (l2.length : Int)), (61, .slice Ao30 t292.length co30), (62, .int .i64 (t292.length : Int))]) (fun s_ w' => (Kd.R (Kd.int .u8) 5 w' w.heap.size (fun k_ => some k_ ≠ (.slice Ao32 y298.length co32 : Value).ownBlock ∧ some k_ ≠ (v304 : Value).ownBlock ∧ some k_ ≠ (s_ : Value).ownBlock) (.slice Ao30 t292.length co30) t292) ∧ (Kd.R (Kd.int .u8) 5 w' w.heap.size (fun k_ => some k_ ≠ (.slice Ao30 t292.length co30 : Value).ownBlock ∧ some k_ ≠ (v304 : Value).ownBlock ∧ some k_ ≠ (s_ : Value).ownBlock) (.slice Ao32 y298.length co32) y298) ∧ (Kd.R (Kd.int .u8) 5 w' w.heap.size (fun k_ => some k_ ≠ (.slice Ao30 t292.length co30 : Value).ownBlock ∧ some k_ ≠ (.slice Ao32 y298.length co32 : Value).ownBlock ∧ some k_ ≠ (s_ : Value).ownBlock) v304 t301) ∧ (Kd.R (Kd.int .u8) 5 w' w.heap.size (fun k_ => some k_ ≠ (.slice Ao30 t292.length co30 : Value).ownBlock ∧ some k_ ≠ (.slice Ao32 y298.length co32 : Value).ownBlock ∧ some k_ ≠ (v304 : Value).ownBlock) s_ t308) ∧ (Below w.heap.size w w')) ?_ ?_
                rotate_left
                ·intro hJ1_5_6
                 refine join_ (σ := Value) 37 #[T,T,T,T,T,T,F,F,F,F,F,F,F,F,F,F,F,F,F,F,F,F,F,F,F,F,F,F,F,F,F,F,F,F,F,F,F,F,F,F,F,F,F] (fun s_ => [(50, .string (strOfNums t292)), (54, s_)]) (fun s_ w' => (Kd.R (Kd.int .u8) 5 w' w.heap.size (fun k_ => some k_ ≠ (.slice Ao32 y298.length co32 : Value).ownBlock ∧ some k_ ≠ (v304 : Value).ownBlock ∧ some k_ ≠ (s_ : Value).ownBlock) (.slice Ao30 t292.length co30) t292) ∧ (Kd.R (Kd.int .u8) 5 w' w.heap.size (fun k_ => some k_ ≠ (.slice Ao30 t292.length co30 : Value).ownBlock ∧ some k_ ≠ (v304 : Value).ownBlock ∧ some k_ ≠ (s_ : Value).ownBlock) (.slice Ao32 y298.length co32) y298) ∧ (Kd.R (Kd.int .u8) 5 w' w.heap.size (fun k_ => some k_ ≠ (.slice Ao30 t292.length co30 : Value).ownBlock ∧ some k_ ≠ (.slice Ao32 y298.length co32 : Value).ownBlock ∧ some k_ ≠ (s_ : Value).ownBlock) v304 t301) ∧ (Kd.R (Kd.int .u8) 5 w' w.heap.size (fun k_ => some k_ ≠ (.slice Ao30 t292.length co30 : Value).ownBlock ∧ some k_ ≠ (.slice Ao32 y298.length co32 : Value).ownBlock ∧ some k_ ≠ (v304 : Value).ownBlock) s_ t308) ∧ (Below w.heap.size w w')) ?_ ?_
                 rotate_left
                 ·intro hJ1_5
                  refine join_ (σ := Value) 37 #[T,F,T,T,T,T,T,F,F,F,F,F,F,F,F,F,F,F,F,F,F,F,F,F,F,F,F,F,F,F,F,F,F,F,F,F,F,F,F,F,F,F,F] (fun s_ => [(54, s_), (55, .string (strOfNums t308))]) (fun s_ w' => (Kd.R (Kd.int .u8) 5 w' w.heap.size (fun k_ => some k_ ≠ (.slice Ao32 y298.length co32 : Value).ownBlock ∧ some k_ ≠ (v304 : Value).ownBlock ∧ some k_ ≠ (s_ : Value).ownBlock) (.slice Ao30 t292.length co30) t292) ∧ (Kd.R (Kd.int .u8) 5 w' w.heap.size (fun k_ => some k_ ≠ (.slice Ao30 t292.length co30 : Value).ownBlock ∧ some k_ ≠ (v304 : Value).ownBlock ∧ some k_ ≠ (s_ : Value).ownBlock) (.slice Ao32 y298.length co32) y298) ∧ (Kd.R (Kd.int .u8) 5 w' w.heap.size (fun k_ => some k_ ≠ (.slice Ao30 t292.length co30 : Value).ownBlock ∧ some k_ ≠ (.slice Ao32 y298.length co32 : Value).ownBlock ∧ some k_ ≠ (s_ : Value).ownBlock) v304 t301) ∧ (Kd.R (Kd.int .u8) 5 w' w.heap.size (fun k_ => some k_ ≠ (.slice Ao30 t292.length co30 : Value).ownBlock ∧ some k_ ≠ (.slice Ao32 y298.length co32 : Value).ownBlock ∧ some k_ ≠ (v304 : Value).ownBlock) s_ t308) ∧ (Below w.heap.size w w')) ?_ ?_
                  rotate_left
                  ·intro hJ5_6
                   refine join_ (σ := Unit) 38 #[T,T,T,T,T,F,F,F,F,F,F,F,F,F,F,F,F,F,F,F,F,F,F,F,F,F,F,F,F,F,F,F,F,F,F,F,F,F,F,F,F,F,F] (fun s_ => [(50, .string (strOfNums t292))]) (fun s_ w' => (Kd.R (Kd.int .u8) 5 w' w.heap.size (fun k_ => some k_ ≠ (.slice Ao32 y298.length co32 : Value).ownBlock ∧ some k_ ≠ (v304 : Value).ownBlock) (.slice Ao30 t292.length co30) t292) ∧ (Kd.R (Kd.int .u8) 5 w' w.heap.size (fun k_ => some k_ ≠ (.slice Ao30 t292.length co30 : Value).ownBlock ∧ some k_ ≠ (v304 : Value).ownBlock) (.slice Ao32 y298.length co32) y298) ∧ (Kd.R (Kd.int .u8) 5 w' w.heap.size (fun k_ => some k_ ≠ (.slice Ao30 t292.length co30 : Value).ownBlock ∧ some k_ ≠ (.slice Ao32 y298.length co32 : Value).ownBlock) v304 t301) ∧ (Below w.heap.size w w')) ?_ ?_
                   rotate_left
                   ·intro hJ1
                    refine join_ (σ := Value) 38 #[T,F,T,T,T,T,F,F,F,F,F,F,F,F,F,F,F,F,F,F,F,F,F,F,F,F,F,F,F,F,F,F,F,F,F,F,F,F,F,F,F,F,F] (fun s_ => [(54, s_)]) (fun s_ w' => (Kd.R (Kd.int .u8) 5 w' w.heap.size (fun k_ => some k_ ≠ (.slice Ao32 y298.length co32 : Value).ownBlock ∧ some k_ ≠ (v304 : Value).ownBlock ∧ some k_ ≠ (s_ : Value).ownBlock) (.slice Ao30 t292.length co30) t292) ∧ (Kd.R (Kd.int .u8) 5 w' w.heap.size (fun k_ => some k_ ≠ (.slice Ao30 t292.length co30 : Value).ownBlock ∧ some k_ ≠ (v304 : Value).ownBlock ∧ some k_ ≠ (s_ : Value).ownBlock) (.slice Ao32 y298.length co32) y298) ∧ (Kd.R (Kd.int .u8) 5 w' w.heap.size (fun k_ => some k_ ≠ (.slice Ao30 t292.length co30 : Value).ownBlock ∧ some k_ ≠ (.slice Ao32 y298.length co32 : Value).ownBlock ∧ some k_ ≠ (s_ : Value).ownBlock) v304 t301) ∧ (Kd.R (Kd.int .u8) 5 w' w.heap.size (fun k_ => some k_ ≠ (.slice Ao30 t292.length co30 : Value).ownBlock ∧ some k_ ≠ (.slice Ao32 y298.length co32 : Value).ownBlock ∧ some k_ ≠ (v304 : Value).ownBlock) s_ t308) ∧ (Below w.heap.size w w')) ?_ ?_
                    rotate_left
                    ·intro hJ5
                     refine two_ (i := 1) (j := 5) (Ni := some 50) (Nj := some 54) #[T,T,T,T,T,F,F,F,F,F,F,F,F,F,F,F,F,F,F,F,F,F,F,F,F,F,F,F,F,F,F,F,F,F,F,F,F,F,F,F,F,F,F] #[T,F,T,T,T,T,F,F,F,F,F,F,F,F,F,F,F,F,F,F,F,F,F,F,F,F,F,F,F,F,F,F,F,F,F,F,F,F,F,F,F,F,F] rfl rfl rfl rfl (two_of HT_.out (by kernel_rfl)) (by decide) (by decide) (fun K hK => ?_) (fun K hK => ?_)
                     ·skip
                      have hcv36 := own_string (P := Tryd.prog) Tryd.underlying22 Tryd.underlying5 Tryd.underlying9 (Kd.own_of_R HO294.out)
                      refine value_ (w1 := ?_) (v := ?_) (by rfl) rfl ?_ ?_
                      rotate_left 2
                      ·go_simp
                       constructor
                       ·rfl
                       ·rfl
                      clear hcv36
                      refine hK.out _ _ trivial (fun hHeld => ?_)
                      clear hK K
                      refine norm_ (a' := ?_) ?_ ?_
                      rotate_left
                      ·show Act.put _ (some 50) _ = _
                       simp only [Act.put, List.setIfInBounds_toArray, List.set_cons_zero, List.set_cons_succ, i64_w, i32_w]
                       rfl
                      exact norm_ (by first | (simp only [putAll, Act.put, List.setIfInBounds_toArray, List.set_cons_zero, List.set_cons_succ]; done) | (simp only [putAll, Act.put, List.setIfInBounds_toArray, List.set_cons_zero, List.set_cons_succ]; rfl)) (hJ1 () _ ⟨(by (with_reducible repeat (first | apply Kd.R_alloc | apply Kd.R_drewN | apply Kd.R_drew)); exact Kd.R_mono HO294.out (fun _ hk => ⟨hk.1.2, hk.2⟩)), (by (with_reducible repeat (first | apply Kd.R_alloc | apply Kd.R_drewN | apply Kd.R_drew)); exact HO300.out), (by (with_reducible repeat (first | apply Kd.R_alloc | apply Kd.R_drewN | apply Kd.R_drew)); exact Kd.R_mono HO305.out (fun _ hk => ⟨hk.1.2, hk.2⟩)), (by repeat (first | (with_reducible first | exact HB.out | apply below_alloc | apply pw_below_drewN | apply below_drew1) | exact HB.out))⟩)
                     ·skip
                      refine goes_ Tryd.func11 (by kernel_rfl) rfl #[.int .u32 a0, .int .u32 a1, .slice A2 l2.length c2] (by rfl) rfl rfl (by (try simp only [List.map_toArray, List.map_cons, List.map_nil]); first | done | rfl | (simp only [List.length_drop, List.length_take]; rfl)) ?_
                      with_reducible refine (paybookref05_Close.calls kj4 a0 a1 _ _ l2 t308 _ ?side1 ?side2 A20.out).mono ?_
                      (case side1 => repeat (first | exact (Kd.C_below HR2.out HB.out) | exact HR2.out | (with_reducible refine Kd.C_alloc ?_ _) | (with_reducible refine Kd.C_drewN ?_ _) | (with_reducible refine Kd.C_drew ?_)))
                      (case side2 => exact HC2.out)
                      rintro e w36 ⟨v309, rfl, ho0, hb⟩
                      refine ⟨_, rfl, ?_⟩
                      have n0_ := Aside0.mk (Kd.R_elder' (by (with_reducible repeat (first | apply Kd.R_alloc | apply Kd.R_drewN | apply Kd.R_drew)); exact HO294.out) (Kd.R_base ho0) hb)
                      have n1_ := Aside0.mk (Kd.R_elder' (by (with_reducible repeat (first | apply Kd.R_alloc | apply Kd.R_drewN | apply Kd.R_drew)); exact HO300.out) (Kd.R_base ho0) hb)
                      have n2_ := Aside0.mk (Kd.R_elder' (by (with_reducible repeat (first | apply Kd.R_alloc | apply Kd.R_drewN | apply Kd.R_drew)); exact HO305.out) (Kd.R_base ho0) hb)
                      have n3_ := Aside0.mk (Kd.R_lower (Kd.R_new' (Kd.R_new' (Kd.R_new' ho0 (Kd.R_lt (by (with_reducible repeat (first | apply Kd.R_alloc | apply Kd.R_drewN | apply Kd.R_drew)); exact HO294.out))) (Kd.R_lt (by (with_reducible repeat (first | apply Kd.R_alloc | apply Kd.R_drewN | apply Kd.R_drew)); exact HO300.out))) (Kd.R_lt (by (with_reducible repeat (first | apply Kd.R_alloc | apply Kd.R_drewN | apply Kd.R_drew)); exact HO305.out))) (below_size (by repeat (first | (with_reducible first | exact HB.out | apply below_alloc | apply pw_below_drewN | apply below_drew1) | exact HB.out))))
                      have n4_ := Aside0.mk (below_step (by repeat (first | (with_reducible first | exact HB.out | apply below_alloc | apply pw_below_drewN | apply below_drew1) | exact HB.out)) hb)
                      clear HO294
                      clear HO300
                      clear HO305
                      clear HB
                      have HO294 := n0_
                      have HO300 := n1_
                      have HO305 := n2_
                      have HO310 := n3_
                      have HB := n4_
                      clear n0_ n1_ n2_ n3_ n4_
                      (try clear hb)
                      (try clear hb2)
                      (try clear hk)
                      (try clear hi)
                      (try clear ho0)
                      refine hK.out _ _ trivial (fun hHeld => ?_)
                      clear hK K
                      refine norm_ (a' := ?_) ?_ ?_
                      rotate_left
                      ·show Act.put _ (some 54) _ = _
                       simp only [Act.put, List.setIfInBounds_toArray, List.set_cons_zero, List.set_cons_succ, i64_w, i32_w]
                       rfl
                      exact norm_ (by first | (simp only [putAll, Act.put, List.setIfInBounds_toArray, List.set_cons_zero, List.set_cons_succ]; done) | (simp only [putAll, Act.put, List.setIfInBounds_toArray, List.set_cons_zero, List.set_cons_succ]; rfl)) (hJ5 (v309) _ ⟨(by (with_reducible repeat (first | apply Kd.R_alloc | apply Kd.R_drewN | apply Kd.R_drew)); exact Kd.R_mono HO294.out (fun _ hk => ⟨hk.1.1.2, ⟨hk.1.2, hk.2⟩⟩)), (by (with_reducible repeat (first | apply Kd.R_alloc | apply Kd.R_drewN | apply Kd.R_drew)); exact Kd.R_mono HO300.out (fun _ hk => ⟨hk.1.1, ⟨hk.1.2, hk.2⟩⟩)), (by (with_reducible repeat (first | apply Kd.R_alloc | apply Kd.R_drewN | apply Kd.R_drew)); exact Kd.R_mono HO305.out (fun _ hk => ⟨hk.1.1.2, ⟨hk.1.2, hk.2⟩⟩)), (by (with_reducible repeat (first | apply Kd.R_alloc | apply Kd.R_drewN | apply Kd.R_drew)); exact Kd.R_mono HO310.out (fun _ hk => ⟨hk.1.1.2, ⟨hk.1.2, hk.2⟩⟩)), (by repeat (first | (with_reducible first | exact HB.out | apply below_alloc | apply pw_below_drewN | apply below_drew1) | exact HB.out))⟩)
                    ·skip
                     rintro v309 w37 ⟨h0_, h1_, h2_, h3_, h4_⟩
                     have n0_ : Aside0 (Kd.R (Kd.int .u8) 5 w37 w.heap.size (fun k_ => some k_ ≠ (.slice Ao32 y298.length co32 : Value).ownBlock ∧ some k_ ≠ (v304 : Value).ownBlock ∧ some k_ ≠ (v309 : Value).ownBlock) (.slice Ao30 t292.length co30) t292) := ⟨h0_⟩
                     have n1_ : Aside0 (Kd.R (Kd.int .u8) 5 w37 w.heap.size (fun k_ => some k_ ≠ (.slice Ao30 t292.length co30 : Value).ownBlock ∧ some k_ ≠ (v304 : Value).ownBlock ∧ some k_ ≠ (v309 : Value).ownBlock) (.slice Ao32 y298.length co32) y298) := ⟨h1_⟩
                     have n2_ : Aside0 (Kd.R (Kd.int .u8) 5 w37 w.heap.size (fun k_ => some k_ ≠ (.slice Ao30 t292.length co30 : Value).ownBlock ∧ some k_ ≠ (.slice Ao32 y298.length co32 : Value).ownBlock ∧ some k_ ≠ (v309 : Value).ownBlock) v304 t301) := ⟨h2_⟩
                     have n3_ : Aside0 (Kd.R (Kd.int .u8) 5 w37 w.heap.size (fun k_ => some k_ ≠ (.slice Ao30 t292.length co30 : Value).ownBlock ∧ some k_ ≠ (.slice Ao32 y298.length co32 : Value).ownBlock ∧ some k_ ≠ (v304 : Value).ownBlock) v309 t308) := ⟨h3_⟩
                     have n4_ : Aside0 (Below w.heap.size w w37) := ⟨h4_⟩
                     clear HO294
                     clear HO300
                     clear HO305
                     clear HB
                     clear h0_ h1_ h2_ h3_ h4_
                     have HO294 := n0_
                     have HO300 := n1_
                     have HO305 := n2_
                     have HO310 := n3_
                     have HB := n4_
                     clear n0_ n1_ n2_ n3_ n4_
                     have hHeld := trivial
                     refine norm_ (a' := ?_) ?_ ?_
                     rotate_left
                     ·simp only [putAll, Act.put, List.setIfInBounds_toArray, List.set_cons_zero, List.set_cons_succ]
                      rfl
                     refine two_ (i := 1) (j := 6) (Ni := some 50) (Nj := some 55) #[T,T,T,T,T,T,F,F,F,F,F,F,F,F,F,F,F,F,F,F,F,F,F,F,F,F,F,F,F,F,F,F,F,F,F,F,F,F,F,F,F,F,F] #[T,F,T,T,T,T,T,F,F,F,F,F,F,F,F,F,F,F,F,F,F,F,F,F,F,F,F,F,F,F,F,F,F,F,F,F,F,F,F,F,F,F,F] rfl rfl rfl rfl (two_of HT_.out (by kernel_rfl)) (by decide) (by decide) (fun K hK => ?_) (fun K hK => ?_)
                     ·skip
                      have hcv38 := own_string (P := Tryd.prog) Tryd.underlying22 Tryd.underlying5 Tryd.underlying9 (Kd.own_of_R HO294.out)
                      refine value_ (w1 := ?_) (v := ?_) (by rfl) rfl ?_ ?_
                      rotate_left 2
                      ·go_simp
                       constructor
                       ·rfl
                       ·rfl
                      clear hcv38
                      refine hK.out _ _ trivial (fun hHeld => ?_)
                      clear hK K
                      refine norm_ (a' := ?_) ?_ ?_
                      rotate_left
                      ·show Act.put _ (some 50) _ = _
                       simp only [Act.put, List.setIfInBounds_toArray, List.set_cons_zero, List.set_cons_succ, i64_w, i32_w]
                       rfl
                      exact norm_ (by first | (simp only [putAll, Act.put, List.setIfInBounds_toArray, List.set_cons_zero, List.set_cons_succ]; done) | (simp only [putAll, Act.put, List.setIfInBounds_toArray, List.set_cons_zero, List.set_cons_succ]; rfl)) (hJ1_5 (v309) _ ⟨(by (with_reducible repeat (first | apply Kd.R_alloc | apply Kd.R_drewN | apply Kd.R_drew)); exact HO294.out), (by (with_reducible repeat (first | apply Kd.R_alloc | apply Kd.R_drewN | apply Kd.R_drew)); exact HO300.out), (by (with_reducible repeat (first | apply Kd.R_alloc | apply Kd.R_drewN | apply Kd.R_drew)); exact HO305.out), (by (with_reducible repeat (first | apply Kd.R_alloc | apply Kd.R_drewN | apply Kd.R_drew)); exact HO310.out), (by repeat (first | (with_reducible first | exact HB.out | apply below_alloc | apply pw_below_drewN | apply below_drew1) | exact HB.out))⟩)
                     ·skip
                      have hcv38 := own_string (P := Tryd.prog) Tryd.underlying22 Tryd.underlying5 Tryd.underlying9 (Kd.own_of_R HO310.out)
                      refine value_ (w1 := ?_) (v := ?_) (by rfl) rfl ?_ ?_
                      rotate_left 2
                      ·go_simp
                       constructor
                       ·rfl
                       ·rfl
                      clear hcv38
                      refine hK.out _ _ trivial (fun hHeld => ?_)
                      clear hK K
                      refine norm_ (a' := ?_) ?_ ?_
                      rotate_left
                      ·show Act.put _ (some 55) _ = _
                       simp only [Act.put, List.setIfInBounds_toArray, List.set_cons_zero, List.set_cons_succ, i64_w, i32_w]
                       rfl
                      exact norm_ (by first | (simp only [putAll, Act.put, List.setIfInBounds_toArray, List.set_cons_zero, List.set_cons_succ]; done) | (simp only [putAll, Act.put, List.setIfInBounds_toArray, List.set_cons_zero, List.set_cons_succ]; rfl)) (hJ5_6 (v309) _ ⟨(by (with_reducible repeat (first | apply Kd.R_alloc | apply Kd.R_drewN | apply Kd.R_drew)); exact HO294.out), (by (with_reducible repeat (first | apply Kd.R_alloc | apply Kd.R_drewN | apply Kd.R_drew)); exact HO300.out), (by (with_reducible repeat (first | apply Kd.R_alloc | apply Kd.R_drewN | apply Kd.R_drew)); exact HO305.out), (by (with_reducible repeat (first | apply Kd.R_alloc | apply Kd.R_drewN | apply Kd.R_drew)); exact HO310.out), (by repeat (first | (with_reducible first | exact HB.out | apply below_alloc | apply pw_below_drewN | apply below_drew1) | exact HB.out))⟩)
                   ·skip
                    rintro _ w37 ⟨h0_, h1_, h2_, h3_⟩
                    have n0_ : Aside0 (Kd.R (Kd.int .u8) 5 w37 w.heap.size (fun k_ => some k_ ≠ (.slice Ao32 y298.length co32 : Value).ownBlock ∧ some k_ ≠ (v304 : Value).ownBlock) (.slice Ao30 t292.length co30) t292) := ⟨h0_⟩
                    have n1_ : Aside0 (Kd.R (Kd.int .u8) 5 w37 w.heap.size (fun k_ => some k_ ≠ (.slice Ao30 t292.length co30 : Value).ownBlock ∧ some k_ ≠ (v304 : Value).ownBlock) (.slice Ao32 y298.length co32) y298) := ⟨h1_⟩
                    have n2_ : Aside0 (Kd.R (Kd.int .u8) 5 w37 w.heap.size (fun k_ => some k_ ≠ (.slice Ao30 t292.length co30 : Value).ownBlock ∧ some k_ ≠ (.slice Ao32 y298.length co32 : Value).ownBlock) v304 t301) := ⟨h2_⟩
                    have n3_ : Aside0 (Below w.heap.size w w37) := ⟨h3_⟩
                    clear HO294
                    clear HO300
                    clear HO305
                    clear HB
                    clear h0_ h1_ h2_ h3_
                    have HO294 := n0_
                    have HO300 := n1_
                    have HO305 := n2_
                    have HB := n3_
                    clear n0_ n1_ n2_ n3_
                    have hHeld := trivial
                    refine norm_ (a' := ?_) ?_ ?_
                    rotate_left
                    ·simp only [putAll, Act.put, List.setIfInBounds_toArray, List.set_cons_zero, List.set_cons_succ]
                     rfl
                    refine one_ (i := 5) (N := some 54) #[T,T,T,T,T,T,F,F,F,F,F,F,F,F,F,F,F,F,F,F,F,F,F,F,F,F,F,F,F,F,F,F,F,F,F,F,F,F,F,F,F,F,F] rfl rfl (one_of HT_.out (by kernel_rfl)) (by decide) (fun K hK => ?_)
                    refine goes_ Tryd.func11 (by kernel_rfl) rfl #[.int .u32 a0, .int .u32 a1, .slice A2 l2.length c2] (by rfl) rfl rfl (by (try simp only [List.map_toArray, List.map_cons, List.map_nil]); first | done | rfl | (simp only [List.length_drop, List.length_take]; rfl)) ?_
                    with_reducible refine (paybookref05_Close.calls kj4 a0 a1 _ _ l2 t308 _ ?side1 ?side2 A20.out).mono ?_
                    (case side1 => repeat (first | exact (Kd.C_below HR2.out HB.out) | exact HR2.out | (with_reducible refine Kd.C_alloc ?_ _) | (with_reducible refine Kd.C_drewN ?_ _) | (with_reducible refine Kd.C_drew ?_)))
                    (case side2 => exact HC2.out)
                    rintro e w38 ⟨v309, rfl, ho0, hb⟩
                    refine ⟨_, rfl, ?_⟩
                    have n0_ := Aside0.mk (Kd.R_elder' (by (with_reducible repeat (first | apply Kd.R_alloc | apply Kd.R_drewN | apply Kd.R_drew)); exact HO294.out) (Kd.R_base ho0) hb)
                    have n1_ := Aside0.mk (Kd.R_elder' (by (with_reducible repeat (first | apply Kd.R_alloc | apply Kd.R_drewN | apply Kd.R_drew)); exact HO300.out) (Kd.R_base ho0) hb)
                    have n2_ := Aside0.mk (Kd.R_elder' (by (with_reducible repeat (first | apply Kd.R_alloc | apply Kd.R_drewN | apply Kd.R_drew)); exact HO305.out) (Kd.R_base ho0) hb)
                    have n3_ := Aside0.mk (Kd.R_lower (Kd.R_new' (Kd.R_new' (Kd.R_new' ho0 (Kd.R_lt (by (with_reducible repeat (first | apply Kd.R_alloc | apply Kd.R_drewN | apply Kd.R_drew)); exact HO294.out))) (Kd.R_lt (by (with_reducible repeat (first | apply Kd.R_alloc | apply Kd.R_drewN | apply Kd.R_drew)); exact HO300.out))) (Kd.R_lt (by (with_reducible repeat (first | apply Kd.R_alloc | apply Kd.R_drewN | apply Kd.R_drew)); exact HO305.out))) (below_size (by repeat (first | (with_reducible first | exact HB.out | apply below_alloc | apply pw_below_drewN | apply below_drew1) | exact HB.out))))
                    have n4_ := Aside0.mk (below_step (by repeat (first | (with_reducible first | exact HB.out | apply below_alloc | apply pw_below_drewN | apply below_drew1) | exact HB.out)) hb)
                    clear HO294
                    clear HO300
                    clear HO305
                    clear HB
                    have HO294 := n0_
                    have HO300 := n1_
                    have HO305 := n2_
                    have HO310 := n3_
                    have HB := n4_
                    clear n0_ n1_ n2_ n3_ n4_
                    (try clear hb)
                    (try clear hb2)
                    (try clear hk)
                    (try clear hi)
                    (try clear ho0)
                    refine hK.out _ _ trivial (fun hHeld => ?_)
                    clear hK K
                    refine norm_ (a' := ?_) ?_ ?_
                    rotate_left
                    ·show Act.put _ (some 54) _ = _
                     simp only [Act.put, List.setIfInBounds_toArray, List.set_cons_zero, List.set_cons_succ, i64_w, i32_w]
                     rfl
                    exact norm_ (by first | (simp only [putAll, Act.put, List.setIfInBounds_toArray, List.set_cons_zero, List.set_cons_succ]; done) | (simp only [putAll, Act.put, List.setIfInBounds_toArray, List.set_cons_zero, List.set_cons_succ]; rfl)) (hJ1_5 (v309) _ ⟨(by (with_reducible repeat (first | apply Kd.R_alloc | apply Kd.R_drewN | apply Kd.R_drew)); exact Kd.R_mono HO294.out (fun _ hk => ⟨hk.1.1, ⟨hk.1.2, hk.2⟩⟩)), (by (with_reducible repeat (first | apply Kd.R_alloc | apply Kd.R_drewN | apply Kd.R_drew)); exact Kd.R_mono HO300.out (fun _ hk => ⟨hk.1.1, ⟨hk.1.2, hk.2⟩⟩)), (by (with_reducible repeat (first | apply Kd.R_alloc | apply Kd.R_drewN | apply Kd.R_drew)); exact Kd.R_mono HO305.out (fun _ hk => ⟨hk.1.1, ⟨hk.1.2, hk.2⟩⟩)), (by (with_reducible repeat (first | apply Kd.R_alloc | apply Kd.R_drewN | apply Kd.R_drew)); exact Kd.R_mono HO310.out (fun _ hk => ⟨hk.1.1.2, ⟨hk.1.2, hk.2⟩⟩)), (by repeat (first | (with_reducible first | exact HB.out | apply below_alloc | apply pw_below_drewN | apply below_drew1) | exact HB.out))⟩)
                  ·skip
                   rintro v309 w38 ⟨h0_, h1_, h2_, h3_, h4_⟩
                   have n0_ : Aside0 (Kd.R (Kd.int .u8) 5 w38 w.heap.size (fun k_ => some k_ ≠ (.slice Ao32 y298.length co32 : Value).ownBlock ∧ some k_ ≠ (v304 : Value).ownBlock ∧ some k_ ≠ (v309 : Value).ownBlock) (.slice Ao30 t292.length co30) t292) := ⟨h0_⟩
                   have n1_ : Aside0 (Kd.R (Kd.int .u8) 5 w38 w.heap.size (fun k_ => some k_ ≠ (.slice Ao30 t292.length co30 : Value).ownBlock ∧ some k_ ≠ (v304 : Value).ownBlock ∧ some k_ ≠ (v309 : Value).ownBlock) (.slice Ao32 y298.length co32) y298) := ⟨h1_⟩
                   have n2_ : Aside0 (Kd.R (Kd.int .u8) 5 w38 w.heap.size (fun k_ => some k_ ≠ (.slice Ao30 t292.length co30 : Value).ownBlock ∧ some k_ ≠ (.slice Ao32 y298.length co32 : Value).ownBlock ∧ some k_ ≠ (v309 : Value).ownBlock) v304 t301) := ⟨h2_⟩
                   have n3_ : Aside0 (Kd.R (Kd.int .u8) 5 w38 w.heap.size (fun k_ => some k_ ≠ (.slice Ao30 t292.length co30 : Value).ownBlock ∧ some k_ ≠ (.slice Ao32 y298.length co32 : Value).ownBlock ∧ some k_ ≠ (v304 : Value).ownBlock) v309 t308) := ⟨h3_⟩
                   have n4_ : Aside0 (Below w.heap.size w w38) := ⟨h4_⟩
                   clear HO294
                   clear HO300
                   clear HO305
                   clear HB
                   clear h0_ h1_ h2_ h3_ h4_
                   have HO294 := n0_
                   have HO300 := n1_
                   have HO305 := n2_
                   have HO310 := n3_
                   have HB := n4_
                   clear n0_ n1_ n2_ n3_ n4_
                   have hHeld := trivial
                   refine norm_ (a' := ?_) ?_ ?_
                   rotate_left
                   ·simp only [putAll, Act.put, List.setIfInBounds_toArray, List.set_cons_zero, List.set_cons_succ]
                    rfl
                   refine one_ (i := 1) (N := some 50) #[T,T,T,T,T,T,T,F,F,F,F,F,F,F,F,F,F,F,F,F,F,F,F,F,F,F,F,F,F,F,F,F,F,F,F,F,F,F,F,F,F,F,F] rfl rfl (one_of HT_.out (by kernel_rfl)) (by decide) (fun K hK => ?_)
                   have hcv39 := own_string (P := Tryd.prog) Tryd.underlying22 Tryd.underlying5 Tryd.underlying9 (Kd.own_of_R HO294.out)
                   refine value_ (w1 := ?_) (v := ?_) (by rfl) rfl ?_ ?_
                   rotate_left 2
                   ·go_simp
                    constructor
                    ·rfl
                    ·rfl
                   clear hcv39
                   refine hK.out _ _ trivial (fun hHeld => ?_)
                   clear hK K
                   refine norm_ (a' := ?_) ?_ ?_
                   rotate_left
                   ·show Act.put _ (some 50) _ = _
                    simp only [Act.put, List.setIfInBounds_toArray, List.set_cons_zero, List.set_cons_succ, i64_w, i32_w]
                    rfl
                   refine pure_ (i := 7) (N := some 56) (v := ?_) (a' := ?_) #[T,T,T,T,T,T,T,T,F,F,F,F,F,F,F,F,F,F,F,F,F,F,F,F,F,F,F,F,F,F,F,F,F,F,F,F,F,F,F,F,F,F,F] rfl rfl (any_of HT_.out (by kernel_rfl)) (fun _ _ _ h => h) (Or.inl ⟨by rfl, ?_⟩) ?_ ?_
                   rotate_left
                   ·intro w'
                    go_simp
                    with_reducible rfl
                   rotate_left
                   ·simp only [Act.put, List.setIfInBounds_toArray, List.set_cons_zero, List.set_cons_succ, i64_w, i32_w]
                    rfl
                   refine pure_ (i := 8) (N := some 57) (v := ?_) (a' := ?_) #[T,T,T,T,T,T,T,T,T,F,F,F,F,F,F,F,F,F,F,F,F,F,F,F,F,F,F,F,F,F,F,F,F,F,F,F,F,F,F,F,F,F,F] rfl rfl (any_of HT_.out (by kernel_rfl)) (fun _ _ _ h => h) (Or.inl ⟨by rfl, ?_⟩) ?_ ?_
                   rotate_left
                   ·intro w'
                    go_simp
                    with_reducible rfl
                   rotate_left
                   ·simp only [Act.put, List.setIfInBounds_toArray, List.set_cons_zero, List.set_cons_succ, i64_w, i32_w]
                    rfl
                   refine pure_ (i := 9) (N := some 58) (v := ?_) (a' := ?_) #[T,T,T,T,T,T,T,T,T,T,F,F,F,F,F,F,F,F,F,F,F,F,F,F,F,F,F,F,F,F,F,F,F,F,F,F,F,F,F,F,F,F,F] rfl rfl (any_of HT_.out (by kernel_rfl)) (fun _ _ _ h => h) (Or.inl ⟨by rfl, ?_⟩) ?_ ?_
                   rotate_left
                   ·intro w'
                    go_simp
                    with_reducible rfl
                   rotate_left
                   ·simp only [Act.put, List.setIfInBounds_toArray, List.set_cons_zero, List.set_cons_succ, i64_w, i32_w]
                    rfl
                   refine pure_ (i := 10) (N := some 59) (v := ?_) (a' := ?_) #[T,T,T,T,T,T,T,T,T,T,T,F,F,F,F,F,F,F,F,F,F,F,F,F,F,F,F,F,F,F,F,F,F,F,F,F,F,F,F,F,F,F,F] rfl rfl (any_of HT_.out (by kernel_rfl)) (fun _ _ _ h => h) (Or.inl ⟨by rfl, ?_⟩) ?_ ?_
                   rotate_left
                   ·intro w'
                    go_simp
                    with_reducible rfl
                   rotate_left
                   ·simp only [Act.put, List.setIfInBounds_toArray, List.set_cons_zero, List.set_cons_succ, i64_w, i32_w]
                    rfl
                   refine pure_ (i := 12) (N := some 61) (v := ?_) (a' := ?_) #[T,T,T,T,T,T,T,T,T,T,T,F,T,F,F,F,F,F,F,F,F,F,F,F,F,F,F,F,F,F,F,F,F,F,F,F,F,F,F,F,F,F,F] rfl rfl (any_of HT_.out (by kernel_rfl)) (fun _ _ _ h => h) (Or.inl ⟨by rfl, ?_⟩) ?_ ?_
                   rotate_left
                   ·intro w'
                    go_simp
                    with_reducible rfl
                   rotate_left
                   ·simp only [Act.put, List.setIfInBounds_toArray, List.set_cons_zero, List.set_cons_succ, i64_w, i32_w]
                    rfl
                   refine pure_ (i := 13) (N := some 62) (v := ?_) (a' := ?_) #[T,T,T,T,T,T,T,T,T,T,T,F,T,T,F,F,F,F,F,F,F,F,F,F,F,F,F,F,F,F,F,F,F,F,F,F,F,F,F,F,F,F,F] rfl rfl (any_of HT_.out (by kernel_rfl)) (fun _ _ _ h => h) (Or.inl ⟨by rfl, ?_⟩) ?_ ?_
                   rotate_left
                   ·intro w'
                    go_simp
                    with_reducible rfl
                   rotate_left
                   ·simp only [Act.put, List.setIfInBounds_toArray, List.set_cons_zero, List.set_cons_succ, i64_w, i32_w]
                    rfl
                   exact norm_ (by first | (simp only [putAll, Act.put, List.setIfInBounds_toArray, List.set_cons_zero, List.set_cons_succ]; done) | (simp only [putAll, Act.put, List.setIfInBounds_toArray, List.set_cons_zero, List.set_cons_succ]; rfl)) (hJ1_5_6 (v309) _ ⟨(by (with_reducible repeat (first | apply Kd.R_alloc | apply Kd.R_drewN | apply Kd.R_drew)); exact HO294.out), (by (with_reducible repeat (first | apply Kd.R_alloc | apply Kd.R_drewN | apply Kd.R_drew)); exact HO300.out), (by (with_reducible repeat (first | apply Kd.R_alloc | apply Kd.R_drewN | apply Kd.R_drew)); exact HO305.out), (by (with_reducible repeat (first | apply Kd.R_alloc | apply Kd.R_drewN | apply Kd.R_drew)); exact HO310.out), (by repeat (first | (with_reducible first | exact HB.out | apply below_alloc | apply pw_below_drewN | apply below_drew1) | exact HB.out))⟩)
                 ·skip
                  rintro v309 w38 ⟨h0_, h1_, h2_, h3_, h4_⟩
                  have n0_ : Aside0 (Kd.R (Kd.int .u8) 5 w38 w.heap.size (fun k_ => some k_ ≠ (.slice Ao32 y298.length co32 : Value).ownBlock ∧ some k_ ≠ (v304 : Value).ownBlock ∧ some k_ ≠ (v309 : Value).ownBlock) (.slice Ao30 t292.length co30) t292) := ⟨h0_⟩
                  have n1_ : Aside0 (Kd.R (Kd.int .u8) 5 w38 w.heap.size (fun k_ => some k_ ≠ (.slice Ao30 t292.length co30 : Value).ownBlock ∧ some k_ ≠ (v304 : Value).ownBlock ∧ some k_ ≠ (v309 : Value).ownBlock) (.slice Ao32 y298.length co32) y298) := ⟨h1_⟩
                  have n2_ : Aside0 (Kd.R (Kd.int .u8) 5 w38 w.heap.size (fun k_ => some k_ ≠ (.slice Ao30 t292.length co30 : Value).ownBlock ∧ some k_ ≠ (.slice Ao32 y298.length co32 : Value).ownBlock ∧ some k_ ≠ (v309 : Value).ownBlock) v304 t301) := ⟨h2_⟩
                  have n3_ : Aside0 (Kd.R (Kd.int .u8) 5 w38 w.heap.size (fun k_ => some k_ ≠ (.slice Ao30 t292.length co30 : Value).ownBlock ∧ some k_ ≠ (.slice Ao32 y298.length co32 : Value).ownBlock ∧ some k_ ≠ (v304 : Value).ownBlock) v309 t308) := ⟨h3_⟩
                  have n4_ : Aside0 (Below w.heap.size w w38) := ⟨h4_⟩
                  clear HO294
                  clear HO300
                  clear HO305
                  clear HB
                  clear h0_ h1_ h2_ h3_ h4_
                  have HO294 := n0_
                  have HO300 := n1_
                  have HO305 := n2_
                  have HO310 := n3_
                  have HB := n4_
                  clear n0_ n1_ n2_ n3_ n4_
                  have hHeld := trivial
                  refine norm_ (a' := ?_) ?_ ?_
                  rotate_left
                  ·simp only [putAll, Act.put, List.setIfInBounds_toArray, List.set_cons_zero, List.set_cons_succ]
                   rfl
                  refine one_ (i := 6) (N := some 55) #[T,T,T,T,T,T,T,F,F,F,F,F,F,F,F,F,F,F,F,F,F,F,F,F,F,F,F,F,F,F,F,F,F,F,F,F,F,F,F,F,F,F,F] rfl rfl (one_of HT_.out (by kernel_rfl)) (by decide) (fun K hK => ?_)
                  have hcv39 := own_string (P := Tryd.prog) Tryd.underlying22 Tryd.underlying5 Tryd.underlying9 (Kd.own_of_R HO310.out)
                  refine value_ (w1 := ?_) (v := ?_) (by rfl) rfl ?_ ?_
                  rotate_left 2
                  ·go_simp
                   constructor
                   ·rfl
                   ·rfl
                  clear hcv39
                  refine hK.out _ _ trivial (fun hHeld => ?_)
                  clear hK K
                  refine norm_ (a' := ?_) ?_ ?_
                  rotate_left
                  ·show Act.put _ (some 55) _ = _
                   simp only [Act.put, List.setIfInBounds_toArray, List.set_cons_zero, List.set_cons_succ, i64_w, i32_w]
                   rfl
                  refine pure_ (i := 7) (N := some 56) (v := ?_) (a' := ?_) #[T,T,T,T,T,T,T,T,F,F,F,F,F,F,F,F,F,F,F,F,F,F,F,F,F,F,F,F,F,F,F,F,F,F,F,F,F,F,F,F,F,F,F] rfl rfl (any_of HT_.out (by kernel_rfl)) (fun _ _ _ h => h) (Or.inl ⟨by rfl, ?_⟩) ?_ ?_
                  rotate_left
                  ·intro w'
                   go_simp
                   with_reducible rfl
                  rotate_left
                  ·simp only [Act.put, List.setIfInBounds_toArray, List.set_cons_zero, List.set_cons_succ, i64_w, i32_w]
                   rfl
                  refine pure_ (i := 8) (N := some 57) (v := ?_) (a' := ?_) #[T,T,T,T,T,T,T,T,T,F,F,F,F,F,F,F,F,F,F,F,F,F,F,F,F,F,F,F,F,F,F,F,F,F,F,F,F,F,F,F,F,F,F] rfl rfl (any_of HT_.out (by kernel_rfl)) (fun _ _ _ h => h) (Or.inl ⟨by rfl, ?_⟩) ?_ ?_
                  rotate_left
                  ·intro w'
                   go_simp
                   with_reducible rfl
                  rotate_left
                  ·simp only [Act.put, List.setIfInBounds_toArray, List.set_cons_zero, List.set_cons_succ, i64_w, i32_w]
                   rfl
                  refine pure_ (i := 9) (N := some 58) (v := ?_) (a' := ?_) #[T,T,T,T,T,T,T,T,T,T,F,F,F,F,F,F,F,F,F,F,F,F,F,F,F,F,F,F,F,F,F,F,F,F,F,F,F,F,F,F,F,F,F] rfl rfl (any_of HT_.out (by kernel_rfl)) (fun _ _ _ h => h) (Or.inl ⟨by rfl, ?_⟩) ?_ ?_
                  rotate_left
                  ·intro w'
                   go_simp
                   with_reducible rfl
                  rotate_left
                  ·simp only [Act.put, List.setIfInBounds_toArray, List.set_cons_zero, List.set_cons_succ, i64_w, i32_w]
                   rfl
                  refine pure_ (i := 10) (N := some 59) (v := ?_) (a' := ?_) #[T,T,T,T,T,T,T,T,T,T,T,F,F,F,F,F,F,F,F,F,F,F,F,F,F,F,F,F,F,F,F,F,F,F,F,F,F,F,F,F,F,F,F] rfl rfl (any_of HT_.out (by kernel_rfl)) (fun _ _ _ h => h) (Or.inl ⟨by rfl, ?_⟩) ?_ ?_
                  rotate_left
                  ·intro w'
                   go_simp
                   with_reducible rfl
                  rotate_left
                  ·simp only [Act.put, List.setIfInBounds_toArray, List.set_cons_zero, List.set_cons_succ, i64_w, i32_w]
                   rfl
                  refine pure_ (i := 12) (N := some 61) (v := ?_) (a' := ?_) #[T,T,T,T,T,T,T,T,T,T,T,F,T,F,F,F,F,F,F,F,F,F,F,F,F,F,F,F,F,F,F,F,F,F,F,F,F,F,F,F,F,F,F] rfl rfl (any_of HT_.out (by kernel_rfl)) (fun _ _ _ h => h) (Or.inl ⟨by rfl, ?_⟩) ?_ ?_
                  rotate_left
                  ·intro w'
                   go_simp
                   with_reducible rfl
                  rotate_left
                  ·simp only [Act.put, List.setIfInBounds_toArray, List.set_cons_zero, List.set_cons_succ, i64_w, i32_w]
                   rfl
                  refine pure_ (i := 13) (N := some 62) (v := ?_) (a' := ?_) #[T,T,T,T,T,T,T,T,T,T,T,F,T,T,F,F,F,F,F,F,F,F,F,F,F,F,F,F,F,F,F,F,F,F,F,F,F,F,F,F,F,F,F] rfl rfl (any_of HT_.out (by kernel_rfl)) (fun _ _ _ h => h) (Or.inl ⟨by rfl, ?_⟩) ?_ ?_
                  rotate_left
                  ·intro w'
                   go_simp
                   with_reducible rfl
                  rotate_left
                  ·simp only [Act.put, List.setIfInBounds_toArray, List.set_cons_zero, List.set_cons_succ, i64_w, i32_w]
                   rfl
                  exact norm_ (by first | (simp only [putAll, Act.put, List.setIfInBounds_toArray, List.set_cons_zero, List.set_cons_succ]; done) | (simp only [putAll, Act.put, List.setIfInBounds_toArray, List.set_cons_zero, List.set_cons_succ]; rfl)) (hJ1_5_6 (v309) _ ⟨(by (with_reducible repeat (first | apply Kd.R_alloc | apply Kd.R_drewN | apply Kd.R_drew)); exact HO294.out), (by (with_reducible repeat (first | apply Kd.R_alloc | apply Kd.R_drewN | apply Kd.R_drew)); exact HO300.out), (by (with_reducible repeat (first | apply Kd.R_alloc | apply Kd.R_drewN | apply Kd.R_drew)); exact HO305.out), (by (with_reducible repeat (first | apply Kd.R_alloc | apply Kd.R_drewN | apply Kd.R_drew)); exact HO310.out), (by repeat (first | (with_reducible first | exact HB.out | apply below_alloc | apply pw_below_drewN | apply below_drew1) | exact HB.out))⟩)
                ·skip
                 rintro v309 w39 ⟨h0_, h1_, h2_, h3_, h4_⟩
                 have n0_ : Aside0 (Kd.R (Kd.int .u8) 5 w39 w.heap.size (fun k_ => some k_ ≠ (.slice Ao32 y298.length co32 : Value).ownBlock ∧ some k_ ≠ (v304 : Value).ownBlock ∧ some k_ ≠ (v309 : Value).ownBlock) (.slice Ao30 t292.length co30) t292) := ⟨h0_⟩
                 have n1_ : Aside0 (Kd.R (Kd.int .u8) 5 w39 w.heap.size (fun k_ => some k_ ≠ (.slice Ao30 t292.length co30 : Value).ownBlock ∧ some k_ ≠ (v304 : Value).ownBlock ∧ some k_ ≠ (v309 : Value).ownBlock) (.slice Ao32 y298.length co32) y298) := ⟨h1_⟩
                 have n2_ : Aside0 (Kd.R (Kd.int .u8) 5 w39 w.heap.size (fun k_ => some k_ ≠ (.slice Ao30 t292.length co30 : Value).ownBlock ∧ some k_ ≠ (.slice Ao32 y298.length co32 : Value).ownBlock ∧ some k_ ≠ (v309 : Value).ownBlock) v304 t301) := ⟨h2_⟩
                 have n3_ : Aside0 (Kd.R (Kd.int .u8) 5 w39 w.heap.size (fun k_ => some k_ ≠ (.slice Ao30 t292.length co30 : Value).ownBlock ∧ some k_ ≠ (.slice Ao32 y298.length co32 : Value).ownBlock ∧ some k_ ≠ (v304 : Value).ownBlock) v309 t308) := ⟨h3_⟩
                 have n4_ : Aside0 (Below w.heap.size w w39) := ⟨h4_⟩
                 clear HO294
                 clear HO300
                 clear HO305
                 clear HB
                 clear h0_ h1_ h2_ h3_ h4_
                 have HO294 := n0_
                 have HO300 := n1_
                 have HO305 := n2_
                 have HO310 := n3_
                 have HB := n4_
                 clear n0_ n1_ n2_ n3_ n4_
                 have hHeld := trivial
                 refine norm_ (a' := ?_) ?_ ?_
                 rotate_left
                 ·simp only [putAll, Act.put, List.setIfInBounds_toArray, List.set_cons_zero, List.set_cons_succ]
                  rfl
                 refine one_ (i := 11) (N := some 60) #[T,T,T,T,T,T,T,T,T,T,T,T,T,T,F,F,F,F,F,F,F,F,F,F,F,F,F,F,F,F,F,F,F,F,F,F,F,F,F,F,F,F,F] rfl rfl (one_of HT_.out (by kernel_rfl)) (by decide) (fun K hK => ?_)
                 refine goes_ Tryd.func16 (by kernel_rfl) rfl #[.int .i64 (l2.length : Int)] (by rfl) rfl rfl (by (try simp only [List.map_toArray, List.map_cons, List.map_nil]); first | done | rfl | (simp only [List.length_drop, List.length_take]; rfl)) ?_
                 with_reducible refine (seal_Size.calls (l2.length : Int) t311 _ A22.out).mono ?_
                 rintro e w40 ⟨rfl, hb⟩
                 refine ⟨_, rfl, ?_⟩
                 have n0_ := Aside0.mk (Kd.R_below (by (with_reducible repeat (first | apply Kd.R_alloc | apply Kd.R_drewN | apply Kd.R_drew)); exact HO294.out) hb)
                 have n1_ := Aside0.mk (Kd.R_below (by (with_reducible repeat (first | apply Kd.R_alloc | apply Kd.R_drewN | apply Kd.R_drew)); exact HO300.out) hb)
                 have n2_ := Aside0.mk (Kd.R_below (by (with_reducible repeat (first | apply Kd.R_alloc | apply Kd.R_drewN | apply Kd.R_drew)); exact HO305.out) hb)
                 have n3_ := Aside0.mk (Kd.R_below (by (with_reducible repeat (first | apply Kd.R_alloc | apply Kd.R_drewN | apply Kd.R_drew)); exact HO310.out) hb)
                 have n4_ := Aside0.mk (below_step (by repeat (first | (with_reducible first | exact HB.out | apply below_alloc | apply pw_below_drewN | apply below_drew1) | exact HB.out)) hb)
                 clear HO294
                 clear HO300
                 clear HO305
                 clear HO310
                 clear HB
                 have HO294 := n0_
                 have HO300 := n1_
                 have HO305 := n2_
                 have HO310 := n3_
                 have HB := n4_
                 clear n0_ n1_ n2_ n3_ n4_
                 (try clear hb)
                 (try clear hb2)
                 (try clear hk)
                 (try clear hi)
                 refine hK.out _ _ trivial (fun hHeld => ?_)
                 clear hK K
                 refine norm_ (a' := ?_) ?_ ?_
                 rotate_left
                 ·show Act.put _ (some 60) _ = _
                  simp only [Act.put, List.setIfInBounds_toArray, List.set_cons_zero, List.set_cons_succ, i64_w, i32_w]
                  rfl
                 refine pure_ (i := 14) (N := some 63) (v := ?_) (a' := ?_) #[T,T,T,T,T,T,T,T,T,T,T,T,T,T,T,F,F,F,F,F,F,F,F,F,F,F,F,F,F,F,F,F,F,F,F,F,F,F,F,F,F,F,F] rfl rfl (any_of HT_.out (by kernel_rfl)) (fun _ _ _ h => h) (Or.inl ⟨by rfl, ?_⟩) ?_ ?_
                 rotate_left
                 ·intro w'
                  go_simp
                  with_reducible rfl
                 rotate_left
                 ·simp only [Act.put, List.setIfInBounds_toArray, List.set_cons_zero, List.set_cons_succ, i64_w, i32_w]
                  rfl
                 refine pure_ (i := 15) (N := some 64) (v := ?_) (a' := ?_) #[T,T,T,T,T,T,T,T,T,T,T,T,T,T,T,T,F,F,F,F,F,F,F,F,F,F,F,F,F,F,F,F,F,F,F,F,F,F,F,F,F,F,F] rfl rfl (any_of HT_.out (by kernel_rfl)) (fun _ _ _ h => h) (Or.inl ⟨by rfl, ?_⟩) ?_ ?_
                 rotate_left
                 ·intro w'
                  go_simp
                  with_reducible rfl
                 rotate_left
                 ·simp only [Act.put, List.setIfInBounds_toArray, List.set_cons_zero, List.set_cons_succ, i64_w, i32_w]
                  rfl
                 refine pure_ (i := 16) (N := some 65) (v := ?_) (a' := ?_) #[T,T,T,T,T,T,T,T,T,T,T,T,T,T,T,T,T,F,F,F,F,F,F,F,F,F,F,F,F,F,F,F,F,F,F,F,F,F,F,F,F,F,F] rfl rfl (any_of HT_.out (by kernel_rfl)) (fun _ _ _ h => h) (Or.inl ⟨by rfl, ?_⟩) ?_ ?_
                 rotate_left
                 ·intro w'
                  go_simp
                  with_reducible rfl
                 rotate_left
                 ·simp only [Act.put, List.setIfInBounds_toArray, List.set_cons_zero, List.set_cons_succ, i64_w, i32_w]
                  rfl
                 refine pure_ (i := 17) (N := some 66) (v := ?_) (a' := ?_) #[T,T,T,T,T,T,T,T,T,T,T,T,T,T,T,T,T,T,F,F,F,F,F,F,F,F,F,F,F,F,F,F,F,F,F,F,F,F,F,F,F,F,F] rfl rfl (any_of HT_.out (by kernel_rfl)) (fun _ _ _ h => h) (Or.inl ⟨by rfl, ?_⟩) ?_ ?_
                 rotate_left
                 ·intro w'
                  go_simp
                  with_reducible rfl
                 rotate_left
                 ·simp only [Act.put, List.setIfInBounds_toArray, List.set_cons_zero, List.set_cons_succ, i64_w, i32_w]
                  rfl
                 refine pure_ (i := 18) (N := some 67) (v := ?_) (a' := ?_) #[T,T,T,T,T,T,T,T,T,T,T,T,T,T,T,T,T,T,T,F,F,F,F,F,F,F,F,F,F,F,F,F,F,F,F,F,F,F,F,F,F,F,F] rfl rfl (any_of HT_.out (by kernel_rfl)) (fun _ _ _ h => h) (Or.inl ⟨by rfl, ?_⟩) ?_ ?_
                 rotate_left
                 ·intro w'
                  go_simp
                  with_reducible rfl
                 rotate_left
                 ·simp only [Act.put, List.setIfInBounds_toArray, List.set_cons_zero, List.set_cons_succ, i64_w, i32_w]
                  rfl
                 refine pure_ (i := 19) (N := some 68) (v := ?_) (a' := ?_) #[T,T,T,T,T,T,T,T,T,T,T,T,T,T,T,T,T,T,T,T,F,F,F,F,F,F,F,F,F,F,F,F,F,F,F,F,F,F,F,F,F,F,F] rfl rfl (any_of HT_.out (by kernel_rfl)) (fun _ _ _ h => h) (Or.inl ⟨by rfl, ?_⟩) ?_ ?_
                 rotate_left
                 ·intro w'
                  go_simp
                  with_reducible rfl
                 rotate_left
                 ·simp only [Act.put, List.setIfInBounds_toArray, List.set_cons_zero, List.set_cons_succ, i64_w, i32_w]
                  rfl
                 refine pure_ (i := 20) (N := some 69) (v := ?_) (a' := ?_) #[T,T,T,T,T,T,T,T,T,T,T,T,T,T,T,T,T,T,T,T,T,F,F,F,F,F,F,F,F,F,F,F,F,F,F,F,F,F,F,F,F,F,F] rfl rfl (any_of HT_.out (by kernel_rfl)) (fun _ _ _ h => h) (Or.inl ⟨by rfl, ?_⟩) ?_ ?_
                 rotate_left
                 ·intro w'
                  go_simp
                  with_reducible rfl
                 rotate_left
                 ·simp only [Act.put, List.setIfInBounds_toArray, List.set_cons_zero, List.set_cons_succ, i64_w, i32_w]
                  rfl
                 refine pure_ (i := 21) (N := some 70) (v := ?_) (a' := ?_) #[T,T,T,T,T,T,T,T,T,T,T,T,T,T,T,T,T,T,T,T,T,T,F,F,F,F,F,F,F,F,F,F,F,F,F,F,F,F,F,F,F,F,F] rfl rfl (any_of HT_.out (by kernel_rfl)) (fun _ _ _ h => h) (Or.inl ⟨by rfl, ?_⟩) ?_ ?_
                 rotate_left
                 ·intro w'
                  go_simp
                  with_reducible rfl
                 rotate_left
                 ·simp only [Act.put, List.setIfInBounds_toArray, List.set_cons_zero, List.set_cons_succ, i64_w, i32_w]
                  rfl
                 refine pure_ (i := 22) (N := some 71) (v := ?_) (a' := ?_) #[T,T,T,T,T,T,T,T,T,T,T,T,T,T,T,T,T,T,T,T,T,T,T,F,F,F,F,F,F,F,F,F,F,F,F,F,F,F,F,F,F,F,F] rfl rfl (any_of HT_.out (by kernel_rfl)) (fun _ _ _ h => h) (Or.inl ⟨by rfl, ?_⟩) ?_ ?_
                 rotate_left
                 ·intro w'
                  go_simp
                  with_reducible rfl
                 rotate_left
                 ·simp only [Act.put, List.setIfInBounds_toArray, List.set_cons_zero, List.set_cons_succ, i64_w, i32_w]
                  rfl
                 refine pure_ (i := 23) (N := some 72) (v := ?_) (a' := ?_) #[T,T,T,T,T,T,T,T,T,T,T,T,T,T,T,T,T,T,T,T,T,T,T,T,F,F,F,F,F,F,F,F,F,F,F,F,F,F,F,F,F,F,F] rfl rfl (any_of HT_.out (by kernel_rfl)) (fun _ _ _ h => h) (Or.inl ⟨by rfl, ?_⟩) ?_ ?_
                 rotate_left
                 ·intro w'
                  go_simp
                  with_reducible rfl
                 rotate_left
                 ·simp only [Act.put, List.setIfInBounds_toArray, List.set_cons_zero, List.set_cons_succ, i64_w, i32_w]
                  rfl
                 refine pure_ (i := 24) (N := some 73) (v := ?_) (a' := ?_) #[T,T,T,T,T,T,T,T,T,T,T,T,T,T,T,T,T,T,T,T,T,T,T,T,T,F,F,F,F,F,F,F,F,F,F,F,F,F,F,F,F,F,F] rfl rfl (any_of HT_.out (by kernel_rfl)) (fun _ _ _ h => h) (Or.inl ⟨by rfl, ?_⟩) ?_ ?_
                 rotate_left
                 ·intro w'
                  go_simp
                  with_reducible rfl
                 rotate_left
                 ·simp only [Act.put, List.setIfInBounds_toArray, List.set_cons_zero, List.set_cons_succ, i64_w, i32_w]
                  rfl
                 refine pure_ (i := 25) (N := some 74) (v := ?_) (a' := ?_) #[T,T,T,T,T,T,T,T,T,T,T,T,T,T,T,T,T,T,T,T,T,T,T,T,T,T,F,F,F,F,F,F,F,F,F,F,F,F,F,F,F,F,F] rfl rfl (any_of HT_.out (by kernel_rfl)) (fun _ _ _ h => h) (Or.inl ⟨by rfl, ?_⟩) ?_ ?_
                 rotate_left
                 ·intro w'
                  go_simp
                  with_reducible rfl
                 rotate_left
                 ·simp only [Act.put, List.setIfInBounds_toArray, List.set_cons_zero, List.set_cons_succ, i64_w, i32_w]
                  rfl
                 refine pure_ (i := 26) (N := some 75) (v := ?_) (a' := ?_) #[T,T,T,T,T,T,T,T,T,T,T,T,T,T,T,T,T,T,T,T,T,T,T,T,T,T,T,F,F,F,F,F,F,F,F,F,F,F,F,F,F,F,F] rfl rfl (any_of HT_.out (by kernel_rfl)) (fun _ _ _ h => h) (Or.inl ⟨by rfl, ?_⟩) ?_ ?_
                 rotate_left
                 ·intro w'
                  go_simp
                  with_reducible rfl
                 rotate_left
                 ·simp only [Act.put, List.setIfInBounds_toArray, List.set_cons_zero, List.set_cons_succ, i64_w, i32_w]
                  rfl
                 refine pure_ (i := 27) (N := some 76) (v := ?_) (a' := ?_) #[T,T,T,T,T,T,T,T,T,T,T,T,T,T,T,T,T,T,T,T,T,T,T,T,T,T,T,T,F,F,F,F,F,F,F,F,F,F,F,F,F,F,F] rfl rfl (any_of HT_.out (by kernel_rfl)) (fun _ _ _ h => h) (Or.inl ⟨by rfl, ?_⟩) ?_ ?_
                 rotate_left
                 ·intro w'
                  go_simp
                  with_reducible rfl
                 rotate_left
                 ·simp only [Act.put, List.setIfInBounds_toArray, List.set_cons_zero, List.set_cons_succ, i64_w, i32_w]
                  rfl
                 refine pure_ (i := 29) (N := some 78) (v := ?_) (a' := ?_) #[T,T,T,T,T,T,T,T,T,T,T,T,T,T,T,T,T,T,T,T,T,T,T,T,T,T,T,T,F,T,F,F,F,F,F,F,F,F,F,F,F,F,F] rfl rfl (any_of HT_.out (by kernel_rfl)) (fun _ _ _ h => h) (Or.inl ⟨by rfl, ?_⟩) ?_ ?_
                 rotate_left
                 ·intro w'
                  go_simp
                  with_reducible rfl
                 rotate_left
                 ·simp only [Act.put, List.setIfInBounds_toArray, List.set_cons_zero, List.set_cons_succ, i64_w, i32_w]
                  rfl
                 exact norm_ (by first | (simp only [putAll, Act.put, List.setIfInBounds_toArray, List.set_cons_zero, List.set_cons_succ]; done) | (simp only [putAll, Act.put, List.setIfInBounds_toArray, List.set_cons_zero, List.set_cons_succ]; rfl)) (hJ1_5_6_11 (v309) _ ⟨(by (with_reducible repeat (first | apply Kd.R_alloc | apply Kd.R_drewN | apply Kd.R_drew)); exact HO294.out), (by (with_reducible repeat (first | apply Kd.R_alloc | apply Kd.R_drewN | apply Kd.R_drew)); exact HO300.out), (by (with_reducible repeat (first | apply Kd.R_alloc | apply Kd.R_drewN | apply Kd.R_drew)); exact HO305.out), (by (with_reducible repeat (first | apply Kd.R_alloc | apply Kd.R_drewN | apply Kd.R_drew)); exact HO310.out), (by repeat (first | (with_reducible first | exact HB.out | apply below_alloc | apply pw_below_drewN | apply below_drew1) | exact HB.out))⟩)
               ·skip
                rintro v309 w40 ⟨h0_, h1_, h2_, h3_, h4_⟩
                have n0_ : Aside0 (Kd.R (Kd.int .u8) 5 w40 w.heap.size (fun k_ => some k_ ≠ (.slice Ao32 y298.length co32 : Value).ownBlock ∧ some k_ ≠ (v304 : Value).ownBlock ∧ some k_ ≠ (v309 : Value).ownBlock) (.slice Ao30 t292.length co30) t292) := ⟨h0_⟩
                have n1_ : Aside0 (Kd.R (Kd.int .u8) 5 w40 w.heap.size (fun k_ => some k_ ≠ (.slice Ao30 t292.length co30 : Value).ownBlock ∧ some k_ ≠ (v304 : Value).ownBlock ∧ some k_ ≠ (v309 : Value).ownBlock) (.slice Ao32 y298.length co32) y298) := ⟨h1_⟩
                have n2_ : Aside0 (Kd.R (Kd.int .u8) 5 w40 w.heap.size (fun k_ => some k_ ≠ (.slice Ao30 t292.length co30 : Value).ownBlock ∧ some k_ ≠ (.slice Ao32 y298.length co32 : Value).ownBlock ∧ some k_ ≠ (v309 : Value).ownBlock) v304 t301) := ⟨h2_⟩
                have n3_ : Aside0 (Kd.R (Kd.int .u8) 5 w40 w.heap.size (fun k_ => some k_ ≠ (.slice Ao30 t292.length co30 : Value).ownBlock ∧ some k_ ≠ (.slice Ao32 y298.length co32 : Value).ownBlock ∧ some k_ ≠ (v304 : Value).ownBlock) v309 t308) := ⟨h3_⟩
                have n4_ : Aside0 (Below w.heap.size w w40) := ⟨h4_⟩
                clear HO294
                clear HO300
                clear HO305
                clear HB
                clear h0_ h1_ h2_ h3_ h4_
                have HO294 := n0_
                have HO300 := n1_
                have HO305 := n2_
                have HO310 := n3_
                have HB := n4_
                clear n0_ n1_ n2_ n3_ n4_
                have hHeld := trivial
                refine norm_ (a' := ?_) ?_ ?_
                rotate_left
                ·simp only [putAll, Act.put, List.setIfInBounds_toArray, List.set_cons_zero, List.set_cons_succ]
                 rfl
                refine two_ (i := 28) (j := 30) (Ni := some 77) (Nj := some 79) #[T,T,T,T,T,T,T,T,T,T,T,T,T,T,T,T,T,T,T,T,T,T,T,T,T,T,T,T,T,T,F,F,F,F,F,F,F,F,F,F,F,F,F] #[T,T,T,T,T,T,T,T,T,T,T,T,T,T,T,T,T,T,T,T,T,T,T,T,T,T,T,T,F,T,T,F,F,F,F,F,F,F,F,F,F,F,F] rfl rfl rfl rfl (two_of HT_.out (by kernel_rfl)) (by decide) (by decide) (fun K hK => ?_) (fun K hK => ?_)
                ·skip
                 have hcv41 := own_string (P := Tryd.prog) Tryd.underlying22 Tryd.underlying5 Tryd.underlying9 (Kd.own_of_R HO305.out)
                 refine value_ (w1 := ?_) (v := ?_) (by rfl) rfl ?_ ?_
                 rotate_left 2
                 ·go_simp
                  constructor
                  ·rfl
                  ·rfl
                 clear hcv41
                 refine hK.out _ _ trivial (fun hHeld => ?_)
                 clear hK K
                 refine norm_ (a' := ?_) ?_ ?_
                 rotate_left
                 ·show Act.put _ (some 77) _ = _
                  simp only [Act.put, List.setIfInBounds_toArray, List.set_cons_zero, List.set_cons_succ, i64_w, i32_w]
                  rfl
                 exact norm_ (by first | (simp only [putAll, Act.put, List.setIfInBounds_toArray, List.set_cons_zero, List.set_cons_succ]; done) | (simp only [putAll, Act.put, List.setIfInBounds_toArray, List.set_cons_zero, List.set_cons_succ]; rfl)) (hJ1_5_6_11_28 (v309) _ ⟨(by (with_reducible repeat (first | apply Kd.R_alloc | apply Kd.R_drewN | apply Kd.R_drew)); exact HO294.out), (by (with_reducible repeat (first | apply Kd.R_alloc | apply Kd.R_drewN | apply Kd.R_drew)); exact HO300.out), (by (with_reducible repeat (first | apply Kd.R_alloc | apply Kd.R_drewN | apply Kd.R_drew)); exact HO305.out), (by (with_reducible repeat (first | apply Kd.R_alloc | apply Kd.R_drewN | apply Kd.R_drew)); exact HO310.out), (by repeat (first | (with_reducible first | exact HB.out | apply below_alloc | apply pw_below_drewN | apply below_drew1) | exact HB.out))⟩)
                ·skip
                 have hcv41 := Kd.C_string (P := Tryd.prog) (A := A2) (c := c2) Tryd.underlying22 Tryd.underlying5 Tryd.underlying9 (Kd.C_below HR2.out HB.out)
                 refine value_ (w1 := ?_) (v := ?_) (by rfl) rfl ?_ ?_
                 rotate_left 2
                 ·go_simp
                  constructor
                  ·rfl
                  ·rfl
                 clear hcv41
                 refine hK.out _ _ trivial (fun hHeld => ?_)
                 clear hK K
                 refine norm_ (a' := ?_) ?_ ?_
                 rotate_left
                 ·show Act.put _ (some 79) _ = _
                  simp only [Act.put, List.setIfInBounds_toArray, List.set_cons_zero, List.set_cons_succ, i64_w, i32_w]
                  rfl
                 exact norm_ (by first | (simp only [putAll, Act.put, List.setIfInBounds_toArray, List.set_cons_zero, List.set_cons_succ]; done) | (simp only [putAll, Act.put, List.setIfInBounds_toArray, List.set_cons_zero, List.set_cons_succ]; rfl)) (hJ1_5_6_11_30 (v309) _ ⟨(by (with_reducible repeat (first | apply Kd.R_alloc | apply Kd.R_drewN | apply Kd.R_drew)); exact HO294.out), (by (with_reducible repeat (first | apply Kd.R_alloc | apply Kd.R_drewN | apply Kd.R_drew)); exact HO300.out), (by (with_reducible repeat (first | apply Kd.R_alloc | apply Kd.R_drewN | apply Kd.R_drew)); exact HO305.out), (by (with_reducible repeat (first | apply Kd.R_alloc | apply Kd.R_drewN | apply Kd.R_drew)); exact HO310.out), (by repeat (first | (with_reducible first | exact HB.out | apply below_alloc | apply pw_below_drewN | apply below_drew1) | exact HB.out))⟩)
              ·skip
               rintro v309 w41 ⟨h0_, h1_, h2_, h3_, h4_⟩
               have n0_ : Aside0 (Kd.R (Kd.int .u8) 5 w41 w.heap.size (fun k_ => some k_ ≠ (.slice Ao32 y298.length co32 : Value).ownBlock ∧ some k_ ≠ (v304 : Value).ownBlock ∧ some k_ ≠ (v309 : Value).ownBlock) (.slice Ao30 t292.length co30) t292) := ⟨h0_⟩
               have n1_ : Aside0 (Kd.R (Kd.int .u8) 5 w41 w.heap.size (fun k_ => some k_ ≠ (.slice Ao30 t292.length co30 : Value).ownBlock ∧ some k_ ≠ (v304 : Value).ownBlock ∧ some k_ ≠ (v309 : Value).ownBlock) (.slice Ao32 y298.length co32) y298) := ⟨h1_⟩
               have n2_ : Aside0 (Kd.R (Kd.int .u8) 5 w41 w.heap.size (fun k_ => some k_ ≠ (.slice Ao30 t292.length co30 : Value).ownBlock ∧ some k_ ≠ (.slice Ao32 y298.length co32 : Value).ownBlock ∧ some k_ ≠ (v309 : Value).ownBlock) v304 t301) := ⟨h2_⟩
               have n3_ : Aside0 (Kd.R (Kd.int .u8) 5 w41 w.heap.size (fun k_ => some k_ ≠ (.slice Ao30 t292.length co30 : Value).ownBlock ∧ some k_ ≠ (.slice Ao32 y298.length co32 : Value).ownBlock ∧ some k_ ≠ (v304 : Value).ownBlock) v309 t308) := ⟨h3_⟩
               have n4_ : Aside0 (Below w.heap.size w w41) := ⟨h4_⟩
               clear HO294
               clear HO300
               clear HO305
               clear HB
               clear h0_ h1_ h2_ h3_ h4_
               have HO294 := n0_
               have HO300 := n1_
               have HO305 := n2_
               have HO310 := n3_
               have HB := n4_
               clear n0_ n1_ n2_ n3_ n4_
               have hHeld := trivial
               refine norm_ (a' := ?_) ?_ ?_
               rotate_left
               ·simp only [putAll, Act.put, List.setIfInBounds_toArray, List.set_cons_zero, List.set_cons_succ]
                rfl
               refine one_ (i := 28) (N := some 77) #[T,T,T,T,T,T,T,T,T,T,T,T,T,T,T,T,T,T,T,T,T,T,T,T,T,T,T,T,T,T,T,F,F,F,F,F,F,F,F,F,F,F,F] rfl rfl (one_of HT_.out (by kernel_rfl)) (by decide) (fun K hK => ?_)
               have hcv42 := own_string (P := Tryd.prog) Tryd.underlying22 Tryd.underlying5 Tryd.underlying9 (Kd.own_of_R HO305.out)
               refine value_ (w1 := ?_) (v := ?_) (by rfl) rfl ?_ ?_
               rotate_left 2
               ·go_simp
                constructor
                ·rfl
                ·rfl
               clear hcv42
               refine hK.out _ _ trivial (fun hHeld => ?_)
               clear hK K
               refine norm_ (a' := ?_) ?_ ?_
               rotate_left
               ·show Act.put _ (some 77) _ = _
                simp only [Act.put, List.setIfInBounds_toArray, List.set_cons_zero, List.set_cons_succ, i64_w, i32_w]
                rfl
               exact norm_ (by first | (simp only [putAll, Act.put, List.setIfInBounds_toArray, List.set_cons_zero, List.set_cons_succ]; done) | (simp only [putAll, Act.put, List.setIfInBounds_toArray, List.set_cons_zero, List.set_cons_succ]; rfl)) (hJ1_5_6_11_28_30 (v309) _ ⟨(by (with_reducible repeat (first | apply Kd.R_alloc | apply Kd.R_drewN | apply Kd.R_drew)); exact HO294.out), (by (with_reducible repeat (first | apply Kd.R_alloc | apply Kd.R_drewN | apply Kd.R_drew)); exact HO300.out), (by (with_reducible repeat (first | apply Kd.R_alloc | apply Kd.R_drewN | apply Kd.R_drew)); exact HO305.out), (by (with_reducible repeat (first | apply Kd.R_alloc | apply Kd.R_drewN | apply Kd.R_drew)); exact HO310.out), (by repeat (first | (with_reducible first | exact HB.out | apply below_alloc | apply pw_below_drewN | apply below_drew1) | exact HB.out))⟩)
             ·skip
              rintro v309 w41 ⟨h0_, h1_, h2_, h3_, h4_⟩
              have n0_ : Aside0 (Kd.R (Kd.int .u8) 5 w41 w.heap.size (fun k_ => some k_ ≠ (.slice Ao32 y298.length co32 : Value).ownBlock ∧ some k_ ≠ (v304 : Value).ownBlock ∧ some k_ ≠ (v309 : Value).ownBlock) (.slice Ao30 t292.length co30) t292) := ⟨h0_⟩
              have n1_ : Aside0 (Kd.R (Kd.int .u8) 5 w41 w.heap.size (fun k_ => some k_ ≠ (.slice Ao30 t292.length co30 : Value).ownBlock ∧ some k_ ≠ (v304 : Value).ownBlock ∧ some k_ ≠ (v309 : Value).ownBlock) (.slice Ao32 y298.length co32) y298) := ⟨h1_⟩
              have n2_ : Aside0 (Kd.R (Kd.int .u8) 5 w41 w.heap.size (fun k_ => some k_ ≠ (.slice Ao30 t292.length co30 : Value).ownBlock ∧ some k_ ≠ (.slice Ao32 y298.length co32 : Value).ownBlock ∧ some k_ ≠ (v309 : Value).ownBlock) v304 t301) := ⟨h2_⟩
              have n3_ : Aside0 (Kd.R (Kd.int .u8) 5 w41 w.heap.size (fun k_ => some k_ ≠ (.slice Ao30 t292.length co30 : Value).ownBlock ∧ some k_ ≠ (.slice Ao32 y298.length co32 : Value).ownBlock ∧ some k_ ≠ (v304 : Value).ownBlock) v309 t308) := ⟨h3_⟩
              have n4_ : Aside0 (Below w.heap.size w w41) := ⟨h4_⟩
              clear HO294
              clear HO300
              clear HO305
              clear HB
              clear h0_ h1_ h2_ h3_ h4_
              have HO294 := n0_
              have HO300 := n1_
              have HO305 := n2_
              have HO310 := n3_
              have HB := n4_
              clear n0_ n1_ n2_ n3_ n4_
              have hHeld := trivial
              refine norm_ (a' := ?_) ?_ ?_
              rotate_left
              ·simp only [putAll, Act.put, List.setIfInBounds_toArray, List.set_cons_zero, List.set_cons_succ]
               rfl
              refine one_ (i := 30) (N := some 79) #[T,T,T,T,T,T,T,T,T,T,T,T,T,T,T,T,T,T,T,T,T,T,T,T,T,T,T,T,T,T,T,F,F,F,F,F,F,F,F,F,F,F,F] rfl rfl (one_of HT_.out (by kernel_rfl)) (by decide) (fun K hK => ?_)
              have hcv42 := Kd.C_string (P := Tryd.prog) (A := A2) (c := c2) Tryd.underlying22 Tryd.underlying5 Tryd.underlying9 (Kd.C_below HR2.out HB.out)
              refine value_ (w1 := ?_) (v := ?_) (by rfl) rfl ?_ ?_
              rotate_left 2
              ·go_simp
               constructor
               ·rfl
               ·rfl
              clear hcv42
              refine hK.out _ _ trivial (fun hHeld => ?_)
              clear hK K
              refine norm_ (a' := ?_) ?_ ?_
              rotate_left
              ·show Act.put _ (some 79) _ = _
               simp only [Act.put, List.setIfInBounds_toArray, List.set_cons_zero, List.set_cons_succ, i64_w, i32_w]
               rfl
              exact norm_ (by first | (simp only [putAll, Act.put, List.setIfInBounds_toArray, List.set_cons_zero, List.set_cons_succ]; done) | (simp only [putAll, Act.put, List.setIfInBounds_toArray, List.set_cons_zero, List.set_cons_succ]; rfl)) (hJ1_5_6_11_28_30 (v309) _ ⟨(by (with_reducible repeat (first | apply Kd.R_alloc | apply Kd.R_drewN | apply Kd.R_drew)); exact HO294.out), (by (with_reducible repeat (first | apply Kd.R_alloc | apply Kd.R_drewN | apply Kd.R_drew)); exact HO300.out), (by (with_reducible repeat (first | apply Kd.R_alloc | apply Kd.R_drewN | apply Kd.R_drew)); exact HO305.out), (by (with_reducible repeat (first | apply Kd.R_alloc | apply Kd.R_drewN | apply Kd.R_drew)); exact HO310.out), (by repeat (first | (with_reducible first | exact HB.out | apply below_alloc | apply pw_below_drewN | apply below_drew1) | exact HB.out))⟩)
            rintro v309 w42 ⟨h0_, h1_, h2_, h3_, h4_⟩
            have n0_ : Aside0 (Kd.R (Kd.int .u8) 5 w42 w.heap.size (fun k_ => some k_ ≠ (.slice Ao32 y298.length co32 : Value).ownBlock ∧ some k_ ≠ (v304 : Value).ownBlock ∧ some k_ ≠ (v309 : Value).ownBlock) (.slice Ao30 t292.length co30) t292) := ⟨h0_⟩
            have n1_ : Aside0 (Kd.R (Kd.int .u8) 5 w42 w.heap.size (fun k_ => some k_ ≠ (.slice Ao30 t292.length co30 : Value).ownBlock ∧ some k_ ≠ (v304 : Value).ownBlock ∧ some k_ ≠ (v309 : Value).ownBlock) (.slice Ao32 y298.length co32) y298) := ⟨h1_⟩
            have n2_ : Aside0 (Kd.R (Kd.int .u8) 5 w42 w.heap.size (fun k_ => some k_ ≠ (.slice Ao30 t292.length co30 : Value).ownBlock ∧ some k_ ≠ (.slice Ao32 y298.length co32 : Value).ownBlock ∧ some k_ ≠ (v309 : Value).ownBlock) v304 t301) := ⟨h2_⟩
            have n3_ : Aside0 (Kd.R (Kd.int .u8) 5 w42 w.heap.size (fun k_ => some k_ ≠ (.slice Ao30 t292.length co30 : Value).ownBlock ∧ some k_ ≠ (.slice Ao32 y298.length co32 : Value).ownBlock ∧ some k_ ≠ (v304 : Value).ownBlock) v309 t308) := ⟨h3_⟩
            have n4_ : Aside0 (Below w.heap.size w w42) := ⟨h4_⟩
            clear HO294
            clear HO300
            clear HO305
            clear HB
            clear h0_ h1_ h2_ h3_ h4_
            have HO294 := n0_
            have HO300 := n1_
            have HO305 := n2_
            have HO310 := n3_
            have HB := n4_
            clear n0_ n1_ n2_ n3_ n4_
            have hHeld := trivial
            refine norm_ (a' := ?_) ?_ ?_
            rotate_left
            ·simp only [putAll, Act.put, List.setIfInBounds_toArray, List.set_cons_zero, List.set_cons_succ]
             rfl
            refine pure_ (i := 31) (N := some 80) (v := ?_) (a' := ?_) #[T,T,T,T,T,T,T,T,T,T,T,T,T,T,T,T,T,T,T,T,T,T,T,T,T,T,T,T,T,T,T,T,F,F,F,F,F,F,F,F,F,F,F] rfl rfl (any_of HT_.out (by kernel_rfl)) (fun _ _ _ h => h) (Or.inl ⟨by rfl, ?_⟩) ?_ ?_
            rotate_left
            ·intro w'
             go_simp
             with_reducible rfl
            rotate_left
            ·simp only [Act.put, List.setIfInBounds_toArray, List.set_cons_zero, List.set_cons_succ, i64_w, i32_w]
             rfl
            refine pure_ (i := 32) (N := some 81) (v := ?_) (a' := ?_) #[T,T,T,T,T,T,T,T,T,T,T,T,T,T,T,T,T,T,T,T,T,T,T,T,T,T,T,T,T,T,T,T,T,F,F,F,F,F,F,F,F,F,F] rfl rfl (any_of HT_.out (by kernel_rfl)) (fun _ _ _ h => h) (Or.inl ⟨by rfl, ?_⟩) ?_ ?_
            rotate_left
            ·intro w'
             go_simp
             with_reducible rfl
            rotate_left
            ·simp only [Act.put, List.setIfInBounds_toArray, List.set_cons_zero, List.set_cons_succ, i64_w, i32_w]
             rfl
            refine pure_ (i := 33) (N := some 82) (v := ?_) (a' := ?_) #[T,T,T,T,T,T,T,T,T,T,T,T,T,T,T,T,T,T,T,T,T,T,T,T,T,T,T,T,T,T,T,T,T,T,F,F,F,F,F,F,F,F,F] rfl rfl (any_of HT_.out (by kernel_rfl)) (fun _ _ _ h => h) (Or.inl ⟨by rfl, ?_⟩) ?_ ?_
            rotate_left
            ·intro w'
             go_simp
             with_reducible rfl
            rotate_left
            ·simp only [Act.put, List.setIfInBounds_toArray, List.set_cons_zero, List.set_cons_succ, i64_w, i32_w]
             rfl
            refine pure_ (i := 34) (N := some 83) (v := ?_) (a' := ?_) #[T,T,T,T,T,T,T,T,T,T,T,T,T,T,T,T,T,T,T,T,T,T,T,T,T,T,T,T,T,T,T,T,T,T,T,F,F,F,F,F,F,F,F] rfl rfl (any_of HT_.out (by kernel_rfl)) (fun _ _ _ h => h) (Or.inl ⟨by rfl, ?_⟩) ?_ ?_
            rotate_left
            ·intro w'
             go_simp
             with_reducible rfl
            rotate_left
            ·simp only [Act.put, List.setIfInBounds_toArray, List.set_cons_zero, List.set_cons_succ, i64_w, i32_w]
             rfl
            refine pure_ (i := 35) (N := some 84) (v := ?_) (a' := ?_) #[T,T,T,T,T,T,T,T,T,T,T,T,T,T,T,T,T,T,T,T,T,T,T,T,T,T,T,T,T,T,T,T,T,T,T,T,F,F,F,F,F,F,F] rfl rfl (any_of HT_.out (by kernel_rfl)) (fun _ _ _ h => h) (Or.inl ⟨by rfl, ?_⟩) ?_ ?_
            rotate_left
            ·intro w'
             go_simp
             with_reducible rfl
            rotate_left
            ·simp only [Act.put, List.setIfInBounds_toArray, List.set_cons_zero, List.set_cons_succ, i64_w, i32_w]
             rfl
            refine pure_ (i := 36) (N := some 85) (v := ?_) (a' := ?_) #[T,T,T,T,T,T,T,T,T,T,T,T,T,T,T,T,T,T,T,T,T,T,T,T,T,T,T,T,T,T,T,T,T,T,T,T,T,F,F,F,F,F,F] rfl rfl (any_of HT_.out (by kernel_rfl)) (fun _ _ _ h => h) (Or.inl ⟨by rfl, ?_⟩) ?_ ?_
            rotate_left
            ·intro w'
             go_simp
             with_reducible rfl
            rotate_left
            ·simp only [Act.put, List.setIfInBounds_toArray, List.set_cons_zero, List.set_cons_succ, i64_w, i32_w]
             rfl
            refine pure_ (i := 37) (N := some 86) (v := ?_) (a' := ?_) #[T,T,T,T,T,T,T,T,T,T,T,T,T,T,T,T,T,T,T,T,T,T,T,T,T,T,T,T,T,T,T,T,T,T,T,T,T,T,F,F,F,F,F] rfl rfl (any_of HT_.out (by kernel_rfl)) (fun _ _ _ h => h) (Or.inl ⟨by rfl, ?_⟩) ?_ ?_
            rotate_left
            ·intro w'
             go_simp
             with_reducible rfl
            rotate_left
            ·simp only [Act.put, List.setIfInBounds_toArray, List.set_cons_zero, List.set_cons_succ, i64_w, i32_w]
             rfl
            refine pure_ (i := 38) (N := some 87) (v := ?_) (a' := ?_) #[T,T,T,T,T,T,T,T,T,T,T,T,T,T,T,T,T,T,T,T,T,T,T,T,T,T,T,T,T,T,T,T,T,T,T,T,T,T,T,F,F,F,F] rfl rfl (any_of HT_.out (by kernel_rfl)) (fun _ _ _ h => h) (Or.inl ⟨by rfl, ?_⟩) ?_ ?_
            rotate_left
            ·intro w'
             go_simp
             with_reducible rfl
            rotate_left
            ·simp only [Act.put, List.setIfInBounds_toArray, List.set_cons_zero, List.set_cons_succ, i64_w, i32_w]
             rfl
            refine pure_ (i := 39) (N := some 88) (v := ?_) (a' := ?_) #[T,T,T,T,T,T,T,T,T,T,T,T,T,T,T,T,T,T,T,T,T,T,T,T,T,T,T,T,T,T,T,T,T,T,T,T,T,T,T,T,F,F,F] rfl rfl (any_of HT_.out (by kernel_rfl)) (fun _ _ _ h => h) (Or.inl ⟨by rfl, ?_⟩) ?_ ?_
            rotate_left
            ·intro w'
             go_simp
             with_reducible rfl
            rotate_left
            ·simp only [Act.put, List.setIfInBounds_toArray, List.set_cons_zero, List.set_cons_succ, i64_w, i32_w]
             rfl
            refine pure_ (i := 40) (N := some 89) (v := ?_) (a' := ?_) #[T,T,T,T,T,T,T,T,T,T,T,T,T,T,T,T,T,T,T,T,T,T,T,T,T,T,T,T,T,T,T,T,T,T,T,T,T,T,T,T,T,F,F] rfl rfl (any_of HT_.out (by kernel_rfl)) (fun _ _ _ h => h) (Or.inl ⟨by rfl, ?_⟩) ?_ ?_
            rotate_left
            ·intro w'
             go_simp
             with_reducible rfl
            rotate_left
            ·simp only [Act.put, List.setIfInBounds_toArray, List.set_cons_zero, List.set_cons_succ, i64_w, i32_w]
             rfl
            refine pure_ (i := 41) (N := some 90) (v := ?_) (a' := ?_) #[T,T,T,T,T,T,T,T,T,T,T,T,T,T,T,T,T,T,T,T,T,T,T,T,T,T,T,T,T,T,T,T,T,T,T,T,T,T,T,T,T,T,F] rfl rfl (any_of HT_.out (by kernel_rfl)) (fun _ _ _ h => h) (Or.inl ⟨by rfl, ?_⟩) ?_ ?_
            rotate_left
            ·intro w'
             go_simp
             with_reducible rfl
            rotate_left
            ·simp only [Act.put, List.setIfInBounds_toArray, List.set_cons_zero, List.set_cons_succ, i64_w, i32_w]
             rfl
            refine pure_ (i := 42) (N := some 8) (v := ?_) (a' := ?_) #[T,T,T,T,T,T,T,T,T,T,T,T,T,T,T,T,T,T,T,T,T,T,T,T,T,T,T,T,T,T,T,T,T,T,T,T,T,T,T,T,T,T,T] rfl rfl (any_of HT_.out (by kernel_rfl)) (fun _ _ _ h => h) (Or.inl ⟨by rfl, ?_⟩) ?_ ?_
            rotate_left
            ·intro w'
             go_simp
             with_reducible rfl
            rotate_left
            ·simp only [Act.put, List.setIfInBounds_toArray, List.set_cons_zero, List.set_cons_succ, i64_w, i32_w]
             rfl
            refine done_ (done_of HT_.out (by kernel_rfl)) ?_
            try go_wp2
            go_ret
            exact ⟨by first | rfl | (simp [errW_none, errW_some] <;> rfl) | (simp [*, errW_none, errW_some] <;> rfl), by repeat (first | (with_reducible first | exact HB.out | apply below_alloc | apply pw_below_drewN | apply below_drew1) | exact HB.out)⟩
           ·rw [if_neg c27] at H
            have c27b0 : (t307 == 0) = false := beq_eq_false_iff_ne.mpr c27
            have c27b1 : (t307 != 0) = true := bne_iff_ne.mpr c27
            exact absurd H (by simp)
          ·rw [if_neg c26] at H
           have c26b0 : ((strOfNums t301).toList == (strOfNums l2).toList) = false := beq_eq_false_iff_ne.mpr c26
           have c26b1 : ((strOfNums t301).toList != (strOfNums l2).toList) = true := bne_iff_ne.mpr c26
           exact absurd H (by simp)
         ·rw [if_neg c25] at H
          have c25b0 : (t302 == (t292.length : Int)) = false := beq_eq_false_iff_ne.mpr c25
          have c25b1 : (t302 != (t292.length : Int)) = true := bne_iff_ne.mpr c25
          exact absurd H (by simp)
        ·rw [if_neg c24] at H
         have c24b0 : (t303 == 0) = false := beq_eq_false_iff_ne.mpr c24
         have c24b1 : (t303 != 0) = true := bne_iff_ne.mpr c24
         exact absurd H (by simp)
       ·rw [if_neg c23] at H
        have c23b0 : (t311 == (t292.length : Int)) = false := beq_eq_false_iff_ne.mpr c23
        have c23b1 : (t311 != (t292.length : Int)) = true := bne_iff_ne.mpr c23
        exact absurd H (by simp)
      ·rw [if_neg c21] at H
       have c21b0 : ((strOfNums t292).toList == (strOfNums t308).toList) = false := beq_eq_false_iff_ne.mpr c21
       have c21b1 : ((strOfNums t292).toList != (strOfNums t308).toList) = true := bne_iff_ne.mpr c21
       exact absurd H (by simp)
     ·rw [if_neg c17] at H
      exact absurd H (by simp)
    ·rw [if_neg c16] at H
     exact absurd H (by simp)

/-- THE ONE PURE STATEMENT of paybooklaw06_SealCloses: yours. -/
def paybooklaw06_SealCloses.Pure : Prop := ∀ (a0 : Int) (a1 : Int) (l2 : List Int) (l3 : List Int), (Lit.int .u32 a0).wf = true → (Lit.int .u32 a1).wf = true → l2.length ≤ maxLen → l2.length * 1 ≤ 140737488351232 → (∀ x ∈ l2, (Lit.int .u8 x).wf = true) → l3.length ≤ maxLen → l3.length * 1 ≤ 140737488351232 → (∀ x ∈ l3, (Lit.int .u8 x).wf = true) → ∃ k, paybooklaw06_SealCloses.f k a0 a1 l2 l3 = some true
theorem paybooklaw06_SealCloses.walk (P : paybooklaw06_SealCloses.Pure) (a0 : Int) (a1 : Int) (a2 : Option Addr) (len2 cap2 : Nat) (z2 : List Int) (a3 : Option Addr) (len3 cap3 : Nat) (z3 : List Int) (w : World) (w0 : (Lit.int .u32 a0).wf = true) (w1 : (Lit.int .u32 a1).wf = true) (w2 : (a2 = none ∧ len2 = 0 ∧ cap2 = 0 ∧ z2 = []) ∨ ∃ x, a2 = some x ∧ len2 ≤ cap2 ∧ cap2 ≤ maxLen ∧ z2.length = cap2 ∧ (∀ i, i < z2.length → w.cell? (x.add i) = some (.int .u8 (z2.getD i 0))) ∧ ∀ n ∈ z2, (Lit.int .u8 n).wf = true) (y2 : len2 * 1 ≤ 140737488351232) (w3 : (a3 = none ∧ len3 = 0 ∧ cap3 = 0 ∧ z3 = []) ∨ ∃ x, a3 = some x ∧ len3 ≤ cap3 ∧ cap3 ≤ maxLen ∧ z3.length = cap3 ∧ (∀ i, i < z3.length → w.cell? (x.add i) = some (.int .u8 (z3.getD i 0))) ∧ ∀ n ∈ z3, (Lit.int .u8 n).wf = true) (y3 : len3 * 1 ≤ 140737488351232) (hrG0 : Kd.C (Kd.int .u32) w (some ⟨0, 0, none⟩) 16 gl0) :
  Calls Tryd.prog 7 #[.int .u32 a0, .int .u32 a1, .slice a2 len2 cap2, .slice a3 len3 cap3] w fun e w' => e = .returned (.bool true) ∧ Below w.heap.size w w' := by
 obtain ⟨l2, rfl, hr2, hm2, hw2, hc2⟩ := ReadsInt.ofRowC w2
 obtain ⟨l3, rfl, hr3, hm3, hw3, hc3⟩ := ReadsInt.ofRowC w3
 obtain ⟨k, h⟩ := P a0 a1 l2 l3 w0 w1 hm2 y2 hw2 hm3 y3 hw3
 refine (paybooklaw06_SealCloses.calls k a0 a1 _ _ l2 _ _ l3 w (Kd.C_of_reads (d := (0 : Int)) (h1 := fun _ => rfl) hr2) hc2 (Kd.C_of_reads (d := (0 : Int)) (h1 := fun _ => rfl) hr3) hc3 hrG0 h).mono ?_
 rintro e w' ⟨rfl, hd⟩
 exact ⟨rfl, hd⟩

end Go.Proofs.YtifefhdinnechaaDoor.PA
