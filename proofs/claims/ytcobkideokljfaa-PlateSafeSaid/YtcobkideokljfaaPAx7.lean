-- printed by this workplace: wip/patchprint.py over the kit's print
import Derived.Test.YtcobkideokljfaaPAx0
namespace Go.Proofs.Ytcobkideokljfaa.PA
open Go.RowKit Go.Proofs.YtcobkideokljfaaW.PrintWords Go.Proofs.YtcobkideokljfaaW.PrintLast Go.Proofs.YtcobkideokljfaaW.PrintMore
attribute [local go_sem] max2_int min2_int max_two min_two max_three min_three max_four min_four   -- for this text's walks alone
set_option linter.unusedVariables false
set_option linter.unusedSimpArgs false

/-! ### paybookref05_Read: function 30 -/
def paybookref05_Read.l0 : Nat → Int → List Int → Int → List (List Int) → List (S68) → Int → Int → Bool → Int → Option (List Int)
 | 0, _, _, _, _, _, _, _, _, _ => none
 | k + 1, x1, x5, x6, x155000, x155001, x155002, x155003, x155004, x155005 => if x6 < (x155001.length : Int) then (if 0 ≤ x6 then (if ((rd_T68 x155001 x6).f0) = x1 then (paybookref05_Read.l0 k x1 ((rd_T68 x155001 x6).f1) (wrap64 (x6 + 1)) x155000 x155001 x155002 x155003 x155004 x155005) else (paybookref05_Read.l0 k x1 x5 (wrap64 (x6 + 1)) x155000 x155001 x155002 x155003 x155004 x155005)) else (none)) else (some x5)
def paybookref05_Read.f (k : Nat) (l0_0 : List (List Int)) (l0_1 : List (S68)) (a0_2 : Int) (a0_3 : Int) (a0_4 : Bool) (a0_5 : Int) (a1 : Int) : Option (List Int) := if 0 ≤ a1 then (if a1 < (l0_0.length : Int) then (paybookref05_Read.l0 k a1 (rd_L1 l0_0 a1) 0 l0_0 l0_1 a0_2 a0_3 a0_4 a0_5) else (none)) else (none)
theorem paybookref05_Read.mono_l : ∀ k, (∀ y0 y1 y2 y3 y4 y5 y6 y7 y8, LeO (paybookref05_Read.l0 k y0 y1 y2 y3 y4 y5 y6 y7 y8) (paybookref05_Read.l0 (k + 1) y0 y1 y2 y3 y4 y5 y6 y7 y8))
 | 0 => fun _ _ _ _ _ _ _ _ _ r h => by simp [paybookref05_Read.l0] at h
 | k + 1 => by
  have ih0 := paybookref05_Read.mono_l k
  ·intro y0 y1 y2 y3 y4 y5 y6 y7 y8
   unfold paybookref05_Read.l0
   repeat' first
   | (with_reducible exact ih0 _ _ _ _ _ _ _ _ _)
   | (with_reducible exact LeO.refl _)
   | (with_reducible exact LeO.none _)
   | (with_reducible refine LeO.ite ?_ ?_)
   | (with_reducible refine LeO.bind ?_ (fun _ => ?_))
   | exact ih0 _ _ _ _ _ _ _ _ _
   | exact LeO.none _
   | refine LeO.ite ?_ ?_
   | refine LeO.bind ?_ (fun _ => ?_)
theorem paybookref05_Read.mono : ∀ a0 a1 a2 a3 a4 a5 a6 k, LeO (paybookref05_Read.f k a0 a1 a2 a3 a4 a5 a6) (paybookref05_Read.f (k + 1) a0 a1 a2 a3 a4 a5 a6) := by
 intro a0 a1 a2 a3 a4 a5 a6 k
 have ih0 := paybookref05_Read.mono_l k
 unfold paybookref05_Read.f
 repeat' first
   | (with_reducible exact ih0 _ _ _ _ _ _ _ _ _)
   | (with_reducible exact LeO.refl _)
   | (with_reducible exact LeO.none _)
   | (with_reducible refine LeO.ite ?_ ?_)
   | (with_reducible refine LeO.bind ?_ (fun _ => ?_))
   | exact ih0 _ _ _ _ _ _ _ _ _
   | exact LeO.none _
   | refine LeO.ite ?_ ?_
   | refine LeO.bind ?_ (fun _ => ?_)
set_option maxHeartbeats 40000000 in
set_option maxRecDepth 100000 in
theorem paybookref05_Read.calls (k : Nat) (P0_0_ : Nat → Prop) (A0_0 : Option Addr) (c0_0 : Nat) (l0_0 : List (List Int)) (P0_1_ : Nat → Prop) (A0_1 : Option Addr) (c0_1 : Nat) (l0_1 : List (S68)) (a0_2 : Int) (a0_3 : Int) (a0_4 : Bool) (a0_5 : Int) (a1 : Int) (r : List Int) (w : World) (hs0_0 : Kd.V (Kd.slice 5 (Kd.int .u8)) 22 w w.heap.size (fun k_ => P0_0_ k_) (.slice A0_0 l0_0.length c0_0) l0_0) (hs0_1 : Kd.V k68 68 w w.heap.size (fun k_ => P0_1_ k_) (.slice A0_1 l0_1.length c0_1) l0_1) (h : paybookref05_Read.f k l0_0 l0_1 a0_2 a0_3 a0_4 a0_5 a1 = some r) :
  Calls Try.prog 30 #[.agg #[.slice A0_0 l0_0.length c0_0, .slice A0_1 l0_1.length c0_1, .int .i64 a0_2, .int .i64 a0_3, .bool a0_4, .int .i64 a0_5], .int .i64 a1] w fun e w' => ∃ v0_ : Value, e = .returned (v0_) ∧ Kd.V (Kd.int .u8) 5 w' w.heap.size (fun k_ => ((P0_0_ k_ ∨ P0_1_ k_) ∨ w.heap.size ≤ k_)) v0_ r ∧ Below w.heap.size w w' := by
 have hu33 := Try.underlying33
 have HO0_0 := Aside0.mk (show Kd.V (Kd.slice 5 (Kd.int .u8)) 22 w w.heap.size (fun k_ => ((P0_0_ k_ ∨ P0_1_ k_) ∨ w.heap.size ≤ k_)) (.slice A0_0 l0_0.length c0_0) l0_0 from Kd.V_mono hs0_0 (fun k_ hk => .inl (.inl hk)))
 have HO0_1 := Aside0.mk (show Kd.V k68 68 w w.heap.size (fun k_ => ((P0_0_ k_ ∨ P0_1_ k_) ∨ w.heap.size ≤ k_)) (.slice A0_1 l0_1.length c0_1) l0_1 from Kd.V_mono hs0_1 (fun k_ hk => .inl (.inr hk)))
 have HB := Aside0.mk (Below.refl w.heap.size w)
 have H : (if 0 ≤ a1 then (if a1 < (l0_0.length : Int) then (paybookref05_Read.l0 k a1 (rd_L1 l0_0 a1) 0 l0_0 l0_1 a0_2 a0_3 a0_4 a0_5) else (none)) else (none)) = some r := h
 clear h
 by_cases c3 : 0 ≤ a1
 ·rw [if_pos c3] at H
  have c3b0 : decide (0 ≤ a1) = true := decide_eq_true c3
  clear c3
  by_cases c4 : a1 < (l0_0.length : Int)
  ·rw [if_pos c4] at H
   have c4b0 : decide (a1 < (l0_0.length : Int)) = true := decide_eq_true c4
   clear c4
   have H' := Aside0.mk H
   clear H
   go_enter Try.func30, Try.ntmps30
   go_wp2_with (first | ((with_reducible refine gate_dst (N := 2) rfl ?_); refine box_event ?hg (N := 2) ?hd (cs := #[.slice A0_0 l0_0.length c0_0, .slice A0_1 l0_1.length c0_1, .int .i64 a0_2, .int .i64 a0_3, .bool a0_4, .int .i64 a0_5]) (t := 33) ?hr ?_; (case hd => rfl); (case hg => rfl); (case hr => first | (go_simp; done) | (go_simp; rfl)); intro gb154 hg w5 hbox hb; have n0_ := Aside0.mk (Kd.V_below (Kd.V_elderB (by (with_reducible repeat (first | apply Kd.V_alloc | apply Kd.V_drewN | apply Kd.V_drew)); exact HO0_0.out) gb154 (Nat.le_of_eq hg.symm)) hb); have n1_ := Aside0.mk (Kd.V_below (Kd.V_elderB (by (with_reducible repeat (first | apply Kd.V_alloc | apply Kd.V_drewN | apply Kd.V_drew)); exact HO0_1.out) gb154 (Nat.le_of_eq hg.symm)) hb); have n2_ := Aside0.mk (below_step (by repeat (first | (with_reducible first | exact HB.out | apply kL | apply kM | apply kE) | exact HB.out)) hb); have n3_ := Aside0.mk (hbox); have n4_ := Aside0.mk ((by rw [hg]; exact (below_size (by repeat (first | (with_reducible first | exact HB.out | apply kL | apply kM | apply kE) | exact HB.out))) : w.heap.size ≤ gb154)); have n5_ := Aside0.mk ((by rw [hg]; exact (below_size (by repeat (first | (with_reducible first | exact HB.out | apply kL | apply kM | apply kE) | exact HB.out))) : w.heap.size ≤ gb154)); clear HO0_0; clear HO0_1; clear HB; have HO0_0 := n0_; have HO0_1 := n1_; have HB := n2_; have BK154 := n3_; have GW154 := n4_; have GE154 := n5_; clear n0_ n1_ n2_ n3_ n4_ n5_; clear hb hbox hg; obtain ⟨hcz6_0, hcz6_1, hcz6_2, hcz6_3, hcz6_4, hcz6_5, hfz6_0, hfz6_1, hfz6_2, hfz6_3, hfz6_4, hfz6_5⟩ := bxc6 BK154.out; have p155 : 0 ≤ (a1 : Int) := of_decide_eq_true (by first | (with_reducible assumption) | assumption); have q155 : a1 < (l0_0.length : Int) := of_decide_eq_true (by first | (with_reducible assumption) | assumption); obtain ⟨ad155, A155_0, c155_0, e155, hx155_0, hl155_0, hi155_0⟩ := at_L1 (Kd.V_reads' HO0_0.out).2.2 a1 p155 q155; cases e155; obtain ⟨ce155, hce155, hMe155, hcc155⟩ := Kd.V_get HO0_0.out [] a1 p155 (by first | exact q155 | exact of_decide_eq_true (by first | (with_reducible assumption) | assumption) | (have e_ := (Kd.V_reads' HO0_0.out).1; omega)); obtain ⟨ua155_0, uc155_0, rfl, ul155_0, ge155_0⟩ := Kd.FK_slice_open hMe155; have hv155_0 := hcc155 0 _ rfl; rw [Nat.add_zero, show ((Kd.slice 5 (Kd.int .u8))).sz = 1 from rfl, Nat.mul_one] at hv155_0; replace hv155_0 := Option.some.inj (hv155_0.symm.trans hx155_0); injection hv155_0 with hva_ hvn_ hvc_; rw [hva_] at ge155_0; rw [hvc_] at ul155_0; have HL155_0 := Aside0.mk (show Kd.V (Kd.int .u8) 5 _ w.heap.size _ _ (rd_L1 l0_0 a1) from Kd.V_mk ul155_0 ge155_0); clear hva_ hvn_ hvc_ ge155_0 ul155_0; clear hcc155 hce155; have HR155_0 := Aside0.mk hi155_0; have HC155_0 := Aside0.mk hl155_0; clear hi155_0 hl155_0; replace p155 := eq_true p155; replace q155 := eq_true q155))
   go_loopg [5, 6] k (fun kq v5 v6 w' => ∃ (x5_1 : List Int) (x6_1 : Int), v6 = .int .i64 x6_1 ∧ Aside0 (paybookref05_Read.l0 kq a1 x5_1 x6_1 l0_0 l0_1 a0_2 a0_3 a0_4 a0_5 = some r) ∧ Aside0 (kq ≤ k) ∧ Aside0 (Kd.V (Kd.int .u8) 5 w' w.heap.size (fun k_ => ((P0_0_ k_ ∨ P0_1_ k_) ∨ w.heap.size ≤ k_) ∧ k_ ≠ gb154) v5 x5_1) ∧ Aside0 (Kd.V (Kd.slice 5 (Kd.int .u8)) 22 w' w.heap.size (fun k_ => ((P0_0_ k_ ∨ P0_1_ k_) ∨ w.heap.size ≤ k_) ∧ k_ ≠ gb154) (.slice (some ad155) l0_0.length c0_0) l0_0) ∧ Aside0 (Kd.V k68 68 w' w.heap.size (fun k_ => ((P0_0_ k_ ∨ P0_1_ k_) ∨ w.heap.size ≤ k_) ∧ k_ ≠ gb154) (.slice A0_1 l0_1.length c0_1) l0_1) ∧ Aside0 (w'.heap[gb154]? = some (.cells #[(.slice (some ad155) l0_0.length c0_0), (.slice A0_1 l0_1.length c0_1), .int .i64 a0_2, .int .i64 a0_3, .bool a0_4, .int .i64 a0_5] 33 (0, 0))) ∧ Aside0 (Kd.C (Kd.int .u8) w' A155_0 (rd_L1 l0_0 a1).length (rd_L1 l0_0 a1)) ∧ Aside0 (Below w.heap.size w w'))
   case atStart => exact ⟨(rd_L1 l0_0 a1), (0), (by first | rfl | (simp; done) | (simp [*]; done)), H', ⟨Nat.le_refl _⟩, ⟨by (with_reducible repeat (first | apply Kd.V_alloc | apply Kd.V_drewN | apply Kd.V_drew)); exact HL155_0.out⟩, ⟨by (with_reducible repeat (first | apply Kd.V_alloc | apply Kd.V_drewN | apply Kd.V_drew)); exact HO0_0.out⟩, ⟨by (with_reducible repeat (first | apply Kd.V_alloc | apply Kd.V_drewN | apply Kd.V_drew)); exact HO0_1.out⟩, ⟨by (with_reducible repeat (first | refine kN ?_ _ | refine kD ?_ | refine kA ?_ _)); exact BK154.out⟩, ⟨by repeat (first | (with_reducible exact HR155_0.out) | (with_reducible refine Kd.C_alloc ?_ _) | (with_reducible refine Kd.C_drewN ?_ _) | (with_reducible refine Kd.C_drew ?_) | exact HR155_0.out)⟩, ⟨by repeat (first | (with_reducible first | exact HB.out | apply kL | apply kM | apply kE | refine kS ?_ GE154.out) | exact HB.out)⟩⟩
   case round =>
    clear H'
    try clear c1
    try clear p1
    try clear q1
    try clear hx1
    try clear p2
    try clear c3
    try clear c3b0
    try clear c4
    try clear c4b0
    try clear c6
    try clear hcz6_0
    try clear hcz6_1
    try clear hcz6_2
    try clear hcz6_3
    try clear hcz6_4
    try clear hcz6_5
    try clear hfz6_0
    try clear hfz6_1
    try clear hfz6_2
    try clear hfz6_3
    try clear hfz6_4
    try clear hfz6_5
    try clear hx155_0
    try clear p155
    try clear q155
    obtain ⟨x5_1, x6_1, rfl, HA, HK1, HO_5, HO_155000, HO_155001, BK154, HR155_0, HB⟩ := hrel
    cases gk with
    | zero => exact absurd HA.out (by simp [paybookref05_Read.l0])
    | succ k1 =>
     have H := HA.out
     clear HA
     simp only [paybookref05_Read.l0] at H
     by_cases c7 : x6_1 < (l0_1.length : Int)
     ·rw [if_pos c7] at H
      have c7b0 : decide (x6_1 < (l0_1.length : Int)) = true := decide_eq_true c7
      clear c7
      by_cases c8 : 0 ≤ x6_1
      ·rw [if_pos c8] at H
       have c8b0 : decide (0 ≤ x6_1) = true := decide_eq_true c8
       clear c8
       by_cases c9 : ((rd_T68 l0_1 x6_1).f0) = a1
       ·rw [if_pos c9] at H
        have c9b0 : (((rd_T68 l0_1 x6_1).f0) == a1) = true := beq_iff_eq.mpr c9
        have c9b1 : (((rd_T68 l0_1 x6_1).f0) != a1) = false := bne_eq_false_iff_eq.mpr c9
        clear c9
        have H' := Aside0.mk H
        clear H
        obtain ⟨hcz10_0, hcz10_1, hcz10_2, hcz10_3, hcz10_4, hcz10_5, hfz10_0, hfz10_1, hfz10_2, hfz10_3, hfz10_4, hfz10_5⟩ := bxc6 BK154.out
        have p156 : 0 ≤ (x6_1 : Int) := of_decide_eq_true (by first | (with_reducible assumption) | assumption)
        have q156 : x6_1 < (l0_1.length : Int) := of_decide_eq_true (by first | (with_reducible assumption) | assumption)
        obtain ⟨ad156, A156_1, c156_1, e156, hx156_0, hx156_1, hl156_1, hi156_1⟩ := at_T68 (Kd.V_reads' HO_155001.out).2.2 x6_1 p156 q156
        cases e156
        obtain ⟨ce156, hce156, hMe156, hcc156⟩ := Kd.V_get HO_155001.out z68 x6_1 p156 (by first | exact q156 | exact of_decide_eq_true (by first | (with_reducible assumption) | assumption) | (have e_ := (Kd.V_reads' HO_155001.out).1; omega))
        obtain ⟨ua156_1, uc156_1, rfl, ul156_1, ge156_1⟩ := k68_openF hMe156
        have hv156_1 := hcc156 1 _ rfl
        rw [add_field _ _ 1 (by omega)] at hv156_1
        replace hv156_1 := Option.some.inj (hv156_1.symm.trans hx156_1)
        injection hv156_1 with hva_ hvn_ hvc_
        rw [hva_] at ge156_1
        rw [hvc_] at ul156_1
        have HL156_1 := Aside0.mk (show Kd.V (Kd.int .u8) 5 _ w.heap.size _ _ ((rd_T68 l0_1 x6_1).f1) from Kd.V_mk ul156_1 ge156_1)
        clear hva_ hvn_ hvc_ ge156_1 ul156_1
        clear hcc156 hce156
        have HR156_1 := Aside0.mk hi156_1
        have HC156_1 := Aside0.mk hl156_1
        clear hi156_1 hl156_1
        replace p156 := eq_true p156
        replace q156 := eq_true q156
        have p157 : 0 ≤ (x6_1 : Int) := of_decide_eq_true (by first | (with_reducible assumption) | assumption)
        have q157 : x6_1 < (l0_1.length : Int) := of_decide_eq_true (by first | (with_reducible assumption) | assumption)
        obtain ⟨ad157, A157_1, c157_1, e157, hx157_0, hx157_1, hl157_1, hi157_1⟩ := at_T68 (Kd.V_reads' HO_155001.out).2.2 x6_1 p157 q157
        obtain rfl : ad156 = ad157 := (by injection e157)
        obtain ⟨ce157, hce157, hMe157, hcc157⟩ := Kd.V_get HO_155001.out z68 x6_1 p157 (by first | exact q157 | exact of_decide_eq_true (by first | (with_reducible assumption) | assumption) | (have e_ := (Kd.V_reads' HO_155001.out).1; omega))
        obtain ⟨ua157_1, uc157_1, rfl, ul157_1, ge157_1⟩ := k68_openF hMe157
        have hv157_1 := hcc157 1 _ rfl
        rw [add_field _ _ 1 (by omega)] at hv157_1
        replace hv157_1 := Option.some.inj (hv157_1.symm.trans hx157_1)
        injection hv157_1 with hva_ hvn_ hvc_
        rw [hva_] at ge157_1
        rw [hvc_] at ul157_1
        have HL157_1 := Aside0.mk (show Kd.V (Kd.int .u8) 5 _ w.heap.size _ _ ((rd_T68 l0_1 x6_1).f1) from Kd.V_mk ul157_1 ge157_1)
        clear hva_ hvn_ hvc_ ge157_1 ul157_1
        clear hcc157 hce157
        have HR157_1 := Aside0.mk hi157_1
        have HC157_1 := Aside0.mk hl157_1
        clear hi157_1 hl157_1
        replace p157 := eq_true p157
        replace q157 := eq_true q157
        have ea_ := Option.some.inj (hx156_1.symm.trans hx157_1)
        injection ea_ with ea_ en_ ec_
        subst ea_
        subst ec_
        clear en_
        go_wp2
        go_roundg k1
        case measure => have := HK1.out; omega
        case rel => exact ⟨((rd_T68 l0_1 x6_1).f1), (wrap64 (x6_1 + 1)), (by first | rfl | (simp; done) | (simp [*]; done)), H', ⟨by have := HK1.out; omega⟩, ⟨by (with_reducible repeat (first | apply Kd.V_alloc | apply Kd.V_drewN | apply Kd.V_drew)); exact HL157_1.out⟩, ⟨by (with_reducible repeat (first | apply Kd.V_alloc | apply Kd.V_drewN | apply Kd.V_drew)); exact HO_155000.out⟩, ⟨by (with_reducible repeat (first | apply Kd.V_alloc | apply Kd.V_drewN | apply Kd.V_drew)); exact HO_155001.out⟩, ⟨by (with_reducible repeat (first | refine kN ?_ _ | refine kD ?_ | refine kA ?_ _)); exact BK154.out⟩, ⟨by repeat (first | (with_reducible exact HR155_0.out) | (with_reducible refine Kd.C_alloc ?_ _) | (with_reducible refine Kd.C_drewN ?_ _) | (with_reducible refine Kd.C_drew ?_) | exact HR155_0.out)⟩, ⟨by repeat (first | (with_reducible first | exact HB.out | apply kL | apply kM | apply kE | refine kS ?_ GE154.out) | exact HB.out)⟩⟩
       ·rw [if_neg c9] at H
        have c9b0 : (((rd_T68 l0_1 x6_1).f0) == a1) = false := beq_eq_false_iff_ne.mpr c9
        have c9b1 : (((rd_T68 l0_1 x6_1).f0) != a1) = true := bne_iff_ne.mpr c9
        have H' := Aside0.mk H
        clear H
        obtain ⟨hcz11_0, hcz11_1, hcz11_2, hcz11_3, hcz11_4, hcz11_5, hfz11_0, hfz11_1, hfz11_2, hfz11_3, hfz11_4, hfz11_5⟩ := bxc6 BK154.out
        have p156 : 0 ≤ (x6_1 : Int) := of_decide_eq_true (by first | (with_reducible assumption) | assumption)
        have q156 : x6_1 < (l0_1.length : Int) := of_decide_eq_true (by first | (with_reducible assumption) | assumption)
        obtain ⟨ad156, A156_1, c156_1, e156, hx156_0, hx156_1, hl156_1, hi156_1⟩ := at_T68 (Kd.V_reads' HO_155001.out).2.2 x6_1 p156 q156
        cases e156
        obtain ⟨ce156, hce156, hMe156, hcc156⟩ := Kd.V_get HO_155001.out z68 x6_1 p156 (by first | exact q156 | exact of_decide_eq_true (by first | (with_reducible assumption) | assumption) | (have e_ := (Kd.V_reads' HO_155001.out).1; omega))
        obtain ⟨ua156_1, uc156_1, rfl, ul156_1, ge156_1⟩ := k68_openF hMe156
        have hv156_1 := hcc156 1 _ rfl
        rw [add_field _ _ 1 (by omega)] at hv156_1
        replace hv156_1 := Option.some.inj (hv156_1.symm.trans hx156_1)
        injection hv156_1 with hva_ hvn_ hvc_
        rw [hva_] at ge156_1
        rw [hvc_] at ul156_1
        have HL156_1 := Aside0.mk (show Kd.V (Kd.int .u8) 5 _ w.heap.size _ _ ((rd_T68 l0_1 x6_1).f1) from Kd.V_mk ul156_1 ge156_1)
        clear hva_ hvn_ hvc_ ge156_1 ul156_1
        clear hcc156 hce156
        have HR156_1 := Aside0.mk hi156_1
        have HC156_1 := Aside0.mk hl156_1
        clear hi156_1 hl156_1
        replace p156 := eq_true p156
        replace q156 := eq_true q156
        go_wp2
        go_roundg k1
        case measure => have := HK1.out; omega
        case rel => exact ⟨(x5_1), (wrap64 (x6_1 + 1)), (by first | rfl | (simp; done) | (simp [*]; done)), H', ⟨by have := HK1.out; omega⟩, ⟨by (with_reducible repeat (first | apply Kd.V_alloc | apply Kd.V_drewN | apply Kd.V_drew)); exact HO_5.out⟩, ⟨by (with_reducible repeat (first | apply Kd.V_alloc | apply Kd.V_drewN | apply Kd.V_drew)); exact HO_155000.out⟩, ⟨by (with_reducible repeat (first | apply Kd.V_alloc | apply Kd.V_drewN | apply Kd.V_drew)); exact HO_155001.out⟩, ⟨by (with_reducible repeat (first | refine kN ?_ _ | refine kD ?_ | refine kA ?_ _)); exact BK154.out⟩, ⟨by repeat (first | (with_reducible exact HR155_0.out) | (with_reducible refine Kd.C_alloc ?_ _) | (with_reducible refine Kd.C_drewN ?_ _) | (with_reducible refine Kd.C_drew ?_) | exact HR155_0.out)⟩, ⟨by repeat (first | (with_reducible first | exact HB.out | apply kL | apply kM | apply kE | refine kS ?_ GE154.out) | exact HB.out)⟩⟩
      ·rw [if_neg c8] at H
       exact absurd H (by simp)
     ·rw [if_neg c7] at H
      have c7b0 : decide (x6_1 < (l0_1.length : Int)) = false := decide_eq_false c7
      clear c7
      obtain rfl := Option.some.inj H
      obtain ⟨hcz12_0, hcz12_1, hcz12_2, hcz12_3, hcz12_4, hcz12_5, hfz12_0, hfz12_1, hfz12_2, hfz12_3, hfz12_4, hfz12_5⟩ := bxc6 BK154.out
      go_wp2
      go_ret
      exact ⟨_, by first | rfl | (simp [errW_none, errW_some] <;> rfl) | (simp [*, errW_none, errW_some] <;> rfl), by (with_reducible repeat (first | apply Kd.V_alloc | apply Kd.V_drewN | apply Kd.V_drew)); exact Kd.V_mono HO_5.out (fun _ hk => hk.1), by repeat (first | (with_reducible first | exact HB.out | apply kL | apply kM | apply kE | refine kS ?_ GE154.out) | exact HB.out)⟩
  ·rw [if_neg c4] at H
   exact absurd H (by simp)
 ·rw [if_neg c3] at H
  exact absurd H (by simp)

end Go.Proofs.Ytcobkideokljfaa.PA
