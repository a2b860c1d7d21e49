-- printed by this workplace: wip/patchprint.py over the kit's print
import Derived.Test.YtlfaaogifplgeaaDoorPAx0
namespace Go.Proofs.YtlfaaogifplgeaaDoor.PA
open Go.RowKit Go.Proofs.YtlfaaogifplgeaaDoorW.PrintWords Go.Proofs.YtlfaaogifplgeaaDoorW.PrintLast Go.Proofs.YtlfaaogifplgeaaDoorW.PrintMore
attribute [local go_sem] max2_int min2_int max_two min_two max_three min_three max_four min_four   -- for this text's walks alone
set_option linter.unusedVariables false
set_option linter.unusedSimpArgs false

/-! ### paybooklaw12_at: function 12 -/
def paybooklaw12_at.j0 : Nat → Int → Int → Bool → Int → Int → Int → Int → Int → Int → Int → Bool → Option (Int × Int × Int × Int × Int × Int × Int × Bool)
 | 0, _, _, _, _, _, _, _, _, _, _, _ => none
 | k + 1, x5, x6, x38, x103000, x103001, x103002, x103003, x103004, x103005, x103006, x103007 => if x38 = true then (if x103002 = 2 then (some (x103000, x103001, x103002, x103003, x103004, wrap64 (1 + (wrap64 (Int.tmod x5 3))), wrap64 (x6), x103007)) else (some (x103000, x103001, x103002, x103003, x103004, wrap64 (1 + (wrap64 (Int.tmod x5 4))), x103006, x103007))) else (if x103002 = 2 then (some (x103000, x103001, x103002, x103003, x103004, wrap64 (1 + (wrap64 (Int.tmod x5 3))), wrap64 (x6), x103007)) else (some (x103000, x103001, x103002, x103003, x103004, x103005, x103006, x103007)))
def paybooklaw12_at.f (k : Nat) (a0 : Int) (a1 : Int) (a2 : Int) (a3 : Int) (a4 : Int) (a5 : Int) (a6 : Int) (a7 : Bool) : Option (Int × Int × Int × Int × Int × Int × Int × Bool) := if ((1 + (Int.tmod a0 10)) % 256) = 1 then (paybooklaw12_at.j0 k a5 a6 true (wrap64 (a1)) (wrap64 (a2)) ((1 + (Int.tmod a0 10)) % 256) (wrap64 (a3)) (wrap64 (a4)) 0 0 a7) else (paybooklaw12_at.j0 k a5 a6 (((1 + (Int.tmod a0 10)) % 256) == 2) (wrap64 (a1)) (wrap64 (a2)) ((1 + (Int.tmod a0 10)) % 256) (wrap64 (a3)) (wrap64 (a4)) 0 0 a7)
theorem paybooklaw12_at.mono_l : ∀ k, (∀ y0 y1 y2 y3 y4 y5 y6 y7 y8 y9 y10, LeO (paybooklaw12_at.j0 k y0 y1 y2 y3 y4 y5 y6 y7 y8 y9 y10) (paybooklaw12_at.j0 (k + 1) y0 y1 y2 y3 y4 y5 y6 y7 y8 y9 y10))
 | 0 => fun _ _ _ _ _ _ _ _ _ _ _ r h => by simp [paybooklaw12_at.j0] at h
 | k + 1 => by
  have ih0 := paybooklaw12_at.mono_l k
  ·intro y0 y1 y2 y3 y4 y5 y6 y7 y8 y9 y10
   unfold paybooklaw12_at.j0
   repeat' first
   | (with_reducible exact ih0 _ _ _ _ _ _ _ _ _ _ _)
   | (with_reducible exact LeO.refl _)
   | (with_reducible exact LeO.none _)
   | (with_reducible refine LeO.ite ?_ ?_)
   | (with_reducible refine LeO.bind ?_ (fun _ => ?_))
   | exact ih0 _ _ _ _ _ _ _ _ _ _ _
   | exact LeO.none _
   | refine LeO.ite ?_ ?_
   | refine LeO.bind ?_ (fun _ => ?_)
theorem paybooklaw12_at.mono : ∀ a0 a1 a2 a3 a4 a5 a6 a7 k, LeO (paybooklaw12_at.f k a0 a1 a2 a3 a4 a5 a6 a7) (paybooklaw12_at.f (k + 1) a0 a1 a2 a3 a4 a5 a6 a7) := by
 intro a0 a1 a2 a3 a4 a5 a6 a7 k
 have ih0 := paybooklaw12_at.mono_l k
 unfold paybooklaw12_at.f
 repeat' first
   | (with_reducible exact ih0 _ _ _ _ _ _ _ _ _ _ _)
   | (with_reducible exact LeO.refl _)
   | (with_reducible exact LeO.none _)
   | (with_reducible refine LeO.ite ?_ ?_)
   | (with_reducible refine LeO.bind ?_ (fun _ => ?_))
   | exact ih0 _ _ _ _ _ _ _ _ _ _ _
   | exact LeO.none _
   | refine LeO.ite ?_ ?_
   | refine LeO.bind ?_ (fun _ => ?_)
set_option maxHeartbeats 40000000 in
set_option maxRecDepth 100000 in
theorem paybooklaw12_at.calls (k : Nat) (a0 : Int) (a1 : Int) (a2 : Int) (a3 : Int) (a4 : Int) (a5 : Int) (a6 : Int) (a7 : Bool) (r1 : Int) (r2 : Int) (r3 : Int) (r4 : Int) (r5 : Int) (r6 : Int) (r7 : Int) (r8 : Bool) (w : World) (h : paybooklaw12_at.f k a0 a1 a2 a3 a4 a5 a6 a7 = some (r1, r2, r3, r4, r5, r6, r7, r8)) :
  Calls Tryd.prog 12 #[.int .u8 a0, .int .u16 a1, .int .u16 a2, .int .u32 a3, .int .i32 a4, .int .u8 a5, .int .u16 a6, .bool a7] w fun e w' => e = .returned (.agg #[.int .i64 r1, .int .i64 r2, .int .u8 r3, .int .i64 r4, .int .i64 r5, .int .i64 r6, .int .i64 r7, .bool r8]) ∧ Below w.heap.size w w' := by
 have hu25 := Tryd.underlying25
 have HB := Aside0.mk (Below.refl w.heap.size w)
 have H : (if ((1 + (Int.tmod a0 10)) % 256) = 1 then (paybooklaw12_at.j0 k a5 a6 true (wrap64 (a1)) (wrap64 (a2)) ((1 + (Int.tmod a0 10)) % 256) (wrap64 (a3)) (wrap64 (a4)) 0 0 a7) else (paybooklaw12_at.j0 k a5 a6 (((1 + (Int.tmod a0 10)) % 256) == 2) (wrap64 (a1)) (wrap64 (a2)) ((1 + (Int.tmod a0 10)) % 256) (wrap64 (a3)) (wrap64 (a4)) 0 0 a7)) = some (r1, r2, r3, r4, r5, r6, r7, r8) := h
 clear h
 have HC9 := Aside0.mk H
 clear H
 go_enter Tryd.func12, Tryd.ntmps12
 go_upto_region 2 with (first | ((with_reducible refine gate_dst (N := 16) rfl ?_); refine box_event ?hg (N := 16) ?hd (cs := #[.int .i64 0, .int .i64 0, .int .u8 0, .int .i64 0, .int .i64 0, .int .i64 0, .int .i64 0, .bool false]) (t := 25) ?hr ?_; (case hd => rfl); (case hg => rfl); (case hr => first | (go_simp; done) | (go_simp; rfl)); intro gb101 hg w10 hbox hb; have n0_ := Aside0.mk (below_step (by repeat (first | (with_reducible first | exact HB.out | apply kL | apply kM | apply kE) | exact HB.out)) hb); have n1_ := Aside0.mk (hbox); have n2_ := Aside0.mk ((by rw [hg]; exact (below_size (by repeat (first | (with_reducible first | exact HB.out | apply kL | apply kM | apply kE) | exact HB.out))) : w.heap.size ≤ gb101)); have n3_ := Aside0.mk ((by rw [hg]; exact (below_size (by repeat (first | (with_reducible first | exact HB.out | apply kL | apply kM | apply kE) | exact HB.out))) : w.heap.size ≤ gb101)); clear HB; have HB := n0_; have BK101 := n1_; have GW101 := n2_; have GE101 := n3_; clear n0_ n1_ n2_ n3_; clear hb hbox hg) | ((with_reducible refine gate_dst (N := 17) rfl ?_); refine box_event ?hg (N := 17) ?hd (cs := #[.int .i64 0, .int .i64 0, .int .u8 0, .int .i64 0, .int .i64 0, .int .i64 0, .int .i64 0, .bool false]) (t := 25) ?hr ?_; (case hd => rfl); (case hg => rfl); (case hr => first | (go_simp; done) | (go_simp; rfl)); intro gb102 hg w11 hbox hb; have n0_ := Aside0.mk (blk_below (g := gb101) (o := .cells #[.int .i64 0, .int .i64 0, .int .u8 0, .int .i64 0, .int .i64 0, .int .i64 0, .int .i64 0, .bool false] 25 (0, 0)) (by (with_reducible repeat (first | refine kN ?_ _ | refine kD ?_ | refine kA ?_ _)); exact BK101.out) hb); have n1_ := Aside0.mk (below_step (by repeat (first | (with_reducible first | exact HB.out | apply kL | apply kM | apply kE | refine kS ?_ GE101.out) | exact HB.out)) hb); have n2_ := Aside0.mk (hbox); have n3_ := Aside0.mk ((by rw [hg]; exact (below_size (by repeat (first | (with_reducible first | exact HB.out | apply kL | apply kM | apply kE | refine kS ?_ GE101.out) | exact HB.out))) : w.heap.size ≤ gb102)); have n4_ := Aside0.mk ((by rw [hg]; exact (below_size (by repeat (first | (with_reducible first | exact HB.out | apply kL | apply kM | apply kE | refine kS ?_ GE101.out) | exact HB.out))) : w.heap.size ≤ gb102)); have n5_ := Aside0.mk ((by rw [hg]; exact Nat.ne_of_lt (blk_lt (g := gb101) (o := .cells #[.int .i64 0, .int .i64 0, .int .u8 0, .int .i64 0, .int .i64 0, .int .i64 0, .int .i64 0, .bool false] 25 (0, 0)) (by (with_reducible repeat (first | refine kN ?_ _ | refine kD ?_ | refine kA ?_ _)); exact BK101.out)) : gb101 ≠ gb102)); have n6_ := Aside0.mk ((by rw [hg]; exact Nat.ne_of_gt (blk_lt (g := gb101) (o := .cells #[.int .i64 0, .int .i64 0, .int .u8 0, .int .i64 0, .int .i64 0, .int .i64 0, .int .i64 0, .bool false] 25 (0, 0)) (by (with_reducible repeat (first | refine kN ?_ _ | refine kD ?_ | refine kA ?_ _)); exact BK101.out)) : gb102 ≠ gb101)); clear BK101; clear HB; have BK101 := n0_; have HB := n1_; have BK102 := n2_; have GW102 := n3_; have GE102 := n4_; have NB101_102 := n5_; have NB102_101 := n6_; clear n0_ n1_ n2_ n3_ n4_ n5_ n6_; clear hb hbox hg; have hnb12 := NB102_101.out; have hnc12 := NB101_102.out; obtain ⟨hcz13_0, hcz13_1, hcz13_2, hcz13_3, hcz13_4, hcz13_5, hcz13_6, hcz13_7, hfz13_0, hfz13_1, hfz13_2, hfz13_3, hfz13_4, hfz13_5, hfz13_6, hfz13_7⟩ := bxc8 BK102.out))
 (try simp only [Act.put, List.setIfInBounds_toArray, List.set_cons_zero, List.set_cons_succ])
 go_cut [38] (fun v38 wc => ∃ (kq : Nat) (x38_8 : Bool), v38 = .bool x38_8 ∧ Aside0 (paybooklaw12_at.j0 kq a5 a6 x38_8 (wrap64 (a1)) (wrap64 (a2)) ((1 + (Int.tmod a0 10)) % 256) (wrap64 (a3)) (wrap64 (a4)) 0 0 a7 = some (r1, r2, r3, r4, r5, r6, r7, r8)) ∧ Aside0 (kq ≤ k) ∧ Aside0 (wc.heap[gb101]? = some (.cells #[.int .i64 0, .int .i64 0, .int .u8 0, .int .i64 0, .int .i64 0, .int .i64 0, .int .i64 0, .bool false] 25 (0, 0))) ∧ Aside0 (wc.heap[gb102]? = some (.cells #[.int .i64 (wrap64 (a1)), .int .i64 (wrap64 (a2)), .int .u8 ((1 + (Int.tmod a0 10)) % 256), .int .i64 (wrap64 (a3)), .int .i64 (wrap64 (a4)), .int .i64 0, .int .i64 0, .bool a7] 25 (0, 0))) ∧ Aside0 (Below w.heap.size w wc))
 case first =>
  have H := HC9.out
  clear HC9
  by_cases c14 : ((1 + (Int.tmod a0 10)) % 256) = 1
  ·rw [if_pos c14] at H
   have c14b0 : (((1 + (Int.tmod a0 10)) % 256) == 1) = true := beq_iff_eq.mpr c14
   have c14b1 : (((1 + (Int.tmod a0 10)) % 256) != 1) = false := bne_eq_false_iff_eq.mpr c14
   clear c14
   (first | (generalize hg_ : (((1 + (Int.tmod a0 10)) % 256) == 1) = bg_ at *; subst c14b0; have c14b0 := hg_; clear hg_) | rw [c14b0] | (simp only [i64_w, i32_w]; rw [c14b0]) | skip)
   have H' := Aside0.mk H
   clear H
   have hnb15 := NB102_101.out
   have hnc15 := NB101_102.out
   obtain ⟨hcz16_0, hcz16_1, hcz16_2, hcz16_3, hcz16_4, hcz16_5, hcz16_6, hcz16_7, hfz16_0, hfz16_1, hfz16_2, hfz16_3, hfz16_4, hfz16_5, hfz16_6, hfz16_7⟩ := bxc8 BK102.out
   go_wp2
   go_meet
   case rel => exact ⟨_, (true), (by first | rfl | (simp; done) | (simp [*]; done)), (by first | (with_reducible exact H') | (simp only [*]; with_reducible exact H') | exact H'), ⟨by first | omega | exact Nat.le_refl _⟩, ⟨by (with_reducible repeat (first | refine kN ?_ _ | refine kD ?_ | refine kA ?_ _ | refine kR ?_ NB101_102.out _)); (with_reducible repeat (first | refine kN ?_ _ | refine kD ?_ | refine kA ?_ _)); exact BK101.out⟩, ⟨by (with_reducible repeat (first | refine kN ?_ _ | refine kD ?_ | refine kA ?_ _)); refine bxw8 (.int .i64 0) (.int .i64 0) (.int .u8 0) (.int .i64 0) (.int .i64 0) (.int .i64 0) (.int .i64 0) (.bool false) ?_; (with_reducible repeat (first | refine kN ?_ _ | refine kD ?_ | refine kA ?_ _)); exact BK102.out⟩, ⟨by repeat (first | (with_reducible first | exact HB.out | apply kL | apply kM | apply kE | refine kS ?_ GE101.out | refine kS ?_ GE102.out) | exact HB.out)⟩⟩
  ·rw [if_neg c14] at H
   have c14b0 : (((1 + (Int.tmod a0 10)) % 256) == 1) = false := beq_eq_false_iff_ne.mpr c14
   have c14b1 : (((1 + (Int.tmod a0 10)) % 256) != 1) = true := bne_iff_ne.mpr c14
   (first | (generalize hg_ : (((1 + (Int.tmod a0 10)) % 256) == 1) = bg_ at *; subst c14b0; have c14b0 := hg_; clear hg_) | rw [c14b0] | (simp only [i64_w, i32_w]; rw [c14b0]) | skip)
   have H' := Aside0.mk H
   clear H
   have hnb17 := NB102_101.out
   have hnc17 := NB101_102.out
   obtain ⟨hcz18_0, hcz18_1, hcz18_2, hcz18_3, hcz18_4, hcz18_5, hcz18_6, hcz18_7, hfz18_0, hfz18_1, hfz18_2, hfz18_3, hfz18_4, hfz18_5, hfz18_6, hfz18_7⟩ := bxc8 BK102.out
   go_wp2
   go_meet
   case rel => exact ⟨_, ((((1 + (Int.tmod a0 10)) % 256) == 2)), (by first | rfl | (simp; done) | (simp [*]; done)), (by first | (with_reducible exact H') | (simp only [*]; with_reducible exact H') | exact H'), ⟨by first | omega | exact Nat.le_refl _⟩, ⟨by (with_reducible repeat (first | refine kN ?_ _ | refine kD ?_ | refine kA ?_ _ | refine kR ?_ NB101_102.out _)); (with_reducible repeat (first | refine kN ?_ _ | refine kD ?_ | refine kA ?_ _)); exact BK101.out⟩, ⟨by (with_reducible repeat (first | refine kN ?_ _ | refine kD ?_ | refine kA ?_ _)); refine bxw8 (.int .i64 0) (.int .i64 0) (.int .u8 0) (.int .i64 0) (.int .i64 0) (.int .i64 0) (.int .i64 0) (.bool false) ?_; (with_reducible repeat (first | refine kN ?_ _ | refine kD ?_ | refine kA ?_ _)); exact BK102.out⟩, ⟨by repeat (first | (with_reducible first | exact HB.out | apply kL | apply kM | apply kE | refine kS ?_ GE101.out | refine kS ?_ GE102.out) | exact HB.out)⟩⟩
 case rest =>
  clear HC9
  try clear c1
  try clear p2
  try clear p6
  try clear c8
  try clear c12
  try clear c14
  try clear c14b0
  try clear c14b1
  try clear c15
  try clear c17
  try clear hcz13_0
  try clear hcz13_1
  try clear hcz13_2
  try clear hcz13_3
  try clear hcz13_4
  try clear hcz13_5
  try clear hcz13_6
  try clear hcz13_7
  try clear hcz16_0
  try clear hcz16_1
  try clear hcz16_2
  try clear hcz16_3
  try clear hcz16_4
  try clear hcz16_5
  try clear hcz16_6
  try clear hcz16_7
  try clear hcz18_0
  try clear hcz18_1
  try clear hcz18_2
  try clear hcz18_3
  try clear hcz18_4
  try clear hcz18_5
  try clear hcz18_6
  try clear hcz18_7
  try clear hfz13_0
  try clear hfz13_1
  try clear hfz13_2
  try clear hfz13_3
  try clear hfz13_4
  try clear hfz13_5
  try clear hfz13_6
  try clear hfz13_7
  try clear hfz16_0
  try clear hfz16_1
  try clear hfz16_2
  try clear hfz16_3
  try clear hfz16_4
  try clear hfz16_5
  try clear hfz16_6
  try clear hfz16_7
  try clear hfz18_0
  try clear hfz18_1
  try clear hfz18_2
  try clear hfz18_3
  try clear hfz18_4
  try clear hfz18_5
  try clear hfz18_6
  try clear hfz18_7
  obtain ⟨kq, x38_8, rfl, HA, HJ8, BK101, BK102, HB⟩ := hcut
  cases kq with
  | zero => exact absurd HA.out (by simp [paybooklaw12_at.j0])
  | succ kj8 =>
   have H := HA.out
   clear HA
   simp only [paybooklaw12_at.j0] at H
   by_cases c19 : x38_8 = true
   ·subst c19
    have H1 : (if ((1 + (Int.tmod a0 10)) % 256) = 2 then (some ((wrap64 (a1)), (wrap64 (a2)), ((1 + (Int.tmod a0 10)) % 256), (wrap64 (a3)), (wrap64 (a4)), wrap64 (1 + (wrap64 (Int.tmod a5 3))), wrap64 (a6), a7)) else (some ((wrap64 (a1)), (wrap64 (a2)), ((1 + (Int.tmod a0 10)) % 256), (wrap64 (a3)), (wrap64 (a4)), wrap64 (1 + (wrap64 (Int.tmod a5 4))), 0, a7))) = some (r1, r2, r3, r4, r5, r6, r7, r8) := by rw [if_pos rfl] at H; try exact H
    clear H
    have H := H1
    clear H1
    by_cases c20 : ((1 + (Int.tmod a0 10)) % 256) = 2
    ·rw [if_pos c20] at H
     have c20b0 : (((1 + (Int.tmod a0 10)) % 256) == 2) = true := beq_iff_eq.mpr c20
     have c20b1 : (((1 + (Int.tmod a0 10)) % 256) != 2) = false := bne_eq_false_iff_eq.mpr c20
     clear c20
     simp only [Option.some.injEq, Prod.mk.injEq] at H
     obtain ⟨rfl, rfl, rfl, rfl, rfl, rfl, rfl, rfl⟩ := H
     have hnb21 := NB102_101.out
     have hnc21 := NB101_102.out
     obtain ⟨hcz22_0, hcz22_1, hcz22_2, hcz22_3, hcz22_4, hcz22_5, hcz22_6, hcz22_7, hfz22_0, hfz22_1, hfz22_2, hfz22_3, hfz22_4, hfz22_5, hfz22_6, hfz22_7⟩ := bxc8 BK102.out
     obtain ⟨hcz23_0, hcz23_1, hcz23_2, hcz23_3, hcz23_4, hcz23_5, hcz23_6, hcz23_7, hfz23_0, hfz23_1, hfz23_2, hfz23_3, hfz23_4, hfz23_5, hfz23_6, hfz23_7⟩ := bxc8 BK101.out
     go_wp2_with (first | ((with_reducible refine gate_store (t := 25) (p := 16) rfl ?_); refine rec_event (t := 25) (p := 16) (v := ?vo_w24) (g := gb101) (t' := 25) #[.int .i64 0, .int .i64 0, .int .u8 0, .int .i64 0, .int .i64 0, .int .i64 0, .int .i64 0, .bool false] #[.int .i64 (wrap64 (a1)), .int .i64 (wrap64 (a2)), .int .u8 ((1 + (Int.tmod a0 10)) % 256), .int .i64 (wrap64 (a3)), .int .i64 (wrap64 (a4)), .int .i64 (wrap64 (1 + (wrap64 (Int.tmod a5 3)))), .int .i64 (wrap64 (a6)), .bool a7] ?hg ?ho ?hn ?hx ?hy ?hb (by rfl) (by kernel_rfl) (by kernel_rfl) ?_; (case ho => rfl); (case hg => rfl); (case hn => rfl); (case hx => rfl); (case hy => rfl); (case hb => exact by (with_reducible repeat (first | refine kN ?_ _ | refine kD ?_ | refine kA ?_ _ | refine kR ?_ NB101_102.out _)); (with_reducible repeat (first | refine kN ?_ _ | refine kD ?_ | refine kA ?_ _)); exact BK101.out); intro w24 hblk hoth hbel; have n0_ : Aside0 (w24.heap[gb101]? = some (.cells #[.int .i64 (wrap64 (a1)), .int .i64 (wrap64 (a2)), .int .u8 ((1 + (Int.tmod a0 10)) % 256), .int .i64 (wrap64 (a3)), .int .i64 (wrap64 (a4)), .int .i64 (wrap64 (1 + (wrap64 (Int.tmod a5 3)))), .int .i64 (wrap64 (a6)), .bool a7] 25 (0, 0))) := ⟨hblk⟩; have n1_ : Aside0 (w24.heap[gb102]? = some (.cells #[.int .i64 (wrap64 (a1)), .int .i64 (wrap64 (a2)), .int .u8 ((1 + (Int.tmod a0 10)) % 256), .int .i64 (wrap64 (a3)), .int .i64 (wrap64 (a4)), .int .i64 (wrap64 (1 + (wrap64 (Int.tmod a5 3)))), .int .i64 (wrap64 (a6)), .bool a7] 25 (0, 0))) := ⟨(hoth gb102 NB102_101.out).trans (by (with_reducible repeat (first | refine kN ?_ _ | refine kD ?_ | refine kA ?_ _)); refine bxp8_6 (o := .int .i64 0) ?_; (with_reducible repeat (first | refine kN ?_ _ | refine kD ?_ | refine kA ?_ _)); refine bxp8_5 (o := .int .i64 (wrap64 (1 + (wrap64 (Int.tmod a5 4))))) ?_; (with_reducible repeat (first | refine kN ?_ _ | refine kD ?_ | refine kA ?_ _)); refine bxp8_5 (o := .int .i64 0) ?_; (with_reducible repeat (first | refine kN ?_ _ | refine kD ?_ | refine kA ?_ _)); exact BK102.out)⟩; have n2_ : Aside0 (Below w.heap.size w w24) := ⟨Below.trans (by repeat (first | (with_reducible first | exact HB.out | apply kL | apply kM | apply kE | refine kS ?_ GE101.out | refine kS ?_ GE102.out) | exact HB.out)) (hbel _ GE101.out)⟩; clear hblk hoth hbel; clear BK101; clear BK102; clear HB; have BK101 := n0_; have BK102 := n1_; have HB := n2_; clear n0_ n1_ n2_))
     refine bodyPost_ret (results_cell_row rfl _ _ gb101 25 #[.int .i64 (wrap64 (a1)), .int .i64 (wrap64 (a2)), .int .u8 ((1 + (Int.tmod a0 10)) % 256), .int .i64 (wrap64 (a3)), .int .i64 (wrap64 (a4)), .int .i64 (wrap64 (1 + (wrap64 (Int.tmod a5 3)))), .int .i64 (wrap64 (a6)), .bool a7] (0, 0) _ rfl (by (with_reducible repeat (first | refine kN ?_ _ | refine kD ?_ | refine kA ?_ _)); exact BK101.out) Tryd.underlying25 rfl (by kernel_rfl)) rfl ?_
     exact ⟨by first | rfl | (simp [errW_none, errW_some] <;> rfl) | (simp [*, errW_none, errW_some] <;> rfl), by repeat (first | (with_reducible first | exact HB.out | apply kL | apply kM | apply kE | refine kS ?_ GE101.out | refine kS ?_ GE102.out) | exact HB.out)⟩
    ·rw [if_neg c20] at H
     have c20b0 : (((1 + (Int.tmod a0 10)) % 256) == 2) = false := beq_eq_false_iff_ne.mpr c20
     have c20b1 : (((1 + (Int.tmod a0 10)) % 256) != 2) = true := bne_iff_ne.mpr c20
     simp only [Option.some.injEq, Prod.mk.injEq] at H
     obtain ⟨rfl, rfl, rfl, rfl, rfl, rfl, rfl, rfl⟩ := H
     have hnb25 := NB102_101.out
     have hnc25 := NB101_102.out
     obtain ⟨hcz26_0, hcz26_1, hcz26_2, hcz26_3, hcz26_4, hcz26_5, hcz26_6, hcz26_7, hfz26_0, hfz26_1, hfz26_2, hfz26_3, hfz26_4, hfz26_5, hfz26_6, hfz26_7⟩ := bxc8 BK102.out
     obtain ⟨hcz27_0, hcz27_1, hcz27_2, hcz27_3, hcz27_4, hcz27_5, hcz27_6, hcz27_7, hfz27_0, hfz27_1, hfz27_2, hfz27_3, hfz27_4, hfz27_5, hfz27_6, hfz27_7⟩ := bxc8 BK101.out
     go_wp2
     refine bodyPost_ret (results_cell_row rfl _ _ gb101 25 #[.int .i64 (wrap64 (a1)), .int .i64 (wrap64 (a2)), .int .u8 ((1 + (Int.tmod a0 10)) % 256), .int .i64 (wrap64 (a3)), .int .i64 (wrap64 (a4)), .int .i64 (wrap64 (1 + (wrap64 (Int.tmod a5 4)))), .int .i64 0, .bool a7] (0, 0) _ rfl (by (with_reducible repeat (first | refine kN ?_ _ | refine kD ?_ | refine kA ?_ _)); refine bxw8 (.int .i64 0) (.int .i64 0) (.int .u8 0) (.int .i64 0) (.int .i64 0) (.int .i64 0) (.int .i64 0) (.bool false) ?_; (with_reducible repeat (first | refine kN ?_ _ | refine kD ?_ | refine kA ?_ _ | refine kR ?_ NB101_102.out _)); (with_reducible repeat (first | refine kN ?_ _ | refine kD ?_ | refine kA ?_ _)); exact BK101.out) Tryd.underlying25 rfl (by kernel_rfl)) rfl ?_
     exact ⟨by first | rfl | (simp [errW_none, errW_some] <;> rfl) | (simp [*, errW_none, errW_some] <;> rfl), by repeat (first | (with_reducible first | exact HB.out | apply kL | apply kM | apply kE | refine kS ?_ GE101.out | refine kS ?_ GE102.out) | exact HB.out)⟩
   ·replace c19 := Bool.eq_false_iff.mpr c19
    subst c19
    have H1 : (if ((1 + (Int.tmod a0 10)) % 256) = 2 then (some ((wrap64 (a1)), (wrap64 (a2)), ((1 + (Int.tmod a0 10)) % 256), (wrap64 (a3)), (wrap64 (a4)), wrap64 (1 + (wrap64 (Int.tmod a5 3))), wrap64 (a6), a7)) else (some ((wrap64 (a1)), (wrap64 (a2)), ((1 + (Int.tmod a0 10)) % 256), (wrap64 (a3)), (wrap64 (a4)), 0, 0, a7))) = some (r1, r2, r3, r4, r5, r6, r7, r8) := by rw [if_neg (show ¬ (false = true) by decide)] at H; try exact H
    clear H
    have H := H1
    clear H1
    by_cases c28 : ((1 + (Int.tmod a0 10)) % 256) = 2
    ·rw [if_pos c28] at H
     have c28b0 : (((1 + (Int.tmod a0 10)) % 256) == 2) = true := beq_iff_eq.mpr c28
     have c28b1 : (((1 + (Int.tmod a0 10)) % 256) != 2) = false := bne_eq_false_iff_eq.mpr c28
     clear c28
     simp only [Option.some.injEq, Prod.mk.injEq] at H
     obtain ⟨rfl, rfl, rfl, rfl, rfl, rfl, rfl, rfl⟩ := H
     have hnb29 := NB102_101.out
     have hnc29 := NB101_102.out
     obtain ⟨hcz30_0, hcz30_1, hcz30_2, hcz30_3, hcz30_4, hcz30_5, hcz30_6, hcz30_7, hfz30_0, hfz30_1, hfz30_2, hfz30_3, hfz30_4, hfz30_5, hfz30_6, hfz30_7⟩ := bxc8 BK102.out
     obtain ⟨hcz31_0, hcz31_1, hcz31_2, hcz31_3, hcz31_4, hcz31_5, hcz31_6, hcz31_7, hfz31_0, hfz31_1, hfz31_2, hfz31_3, hfz31_4, hfz31_5, hfz31_6, hfz31_7⟩ := bxc8 BK101.out
     go_wp2_with (first | ((with_reducible refine gate_store (t := 25) (p := 16) rfl ?_); refine rec_event (t := 25) (p := 16) (v := ?vo_w32) (g := gb101) (t' := 25) #[.int .i64 0, .int .i64 0, .int .u8 0, .int .i64 0, .int .i64 0, .int .i64 0, .int .i64 0, .bool false] #[.int .i64 (wrap64 (a1)), .int .i64 (wrap64 (a2)), .int .u8 ((1 + (Int.tmod a0 10)) % 256), .int .i64 (wrap64 (a3)), .int .i64 (wrap64 (a4)), .int .i64 (wrap64 (1 + (wrap64 (Int.tmod a5 3)))), .int .i64 (wrap64 (a6)), .bool a7] ?hg ?ho ?hn ?hx ?hy ?hb (by rfl) (by kernel_rfl) (by kernel_rfl) ?_; (case ho => rfl); (case hg => rfl); (case hn => rfl); (case hx => rfl); (case hy => rfl); (case hb => exact by (with_reducible repeat (first | refine kN ?_ _ | refine kD ?_ | refine kA ?_ _ | refine kR ?_ NB101_102.out _)); (with_reducible repeat (first | refine kN ?_ _ | refine kD ?_ | refine kA ?_ _)); exact BK101.out); intro w32 hblk hoth hbel; have n0_ : Aside0 (w32.heap[gb101]? = some (.cells #[.int .i64 (wrap64 (a1)), .int .i64 (wrap64 (a2)), .int .u8 ((1 + (Int.tmod a0 10)) % 256), .int .i64 (wrap64 (a3)), .int .i64 (wrap64 (a4)), .int .i64 (wrap64 (1 + (wrap64 (Int.tmod a5 3)))), .int .i64 (wrap64 (a6)), .bool a7] 25 (0, 0))) := ⟨hblk⟩; have n1_ : Aside0 (w32.heap[gb102]? = some (.cells #[.int .i64 (wrap64 (a1)), .int .i64 (wrap64 (a2)), .int .u8 ((1 + (Int.tmod a0 10)) % 256), .int .i64 (wrap64 (a3)), .int .i64 (wrap64 (a4)), .int .i64 (wrap64 (1 + (wrap64 (Int.tmod a5 3)))), .int .i64 (wrap64 (a6)), .bool a7] 25 (0, 0))) := ⟨(hoth gb102 NB102_101.out).trans (by (with_reducible repeat (first | refine kN ?_ _ | refine kD ?_ | refine kA ?_ _)); refine bxp8_6 (o := .int .i64 0) ?_; (with_reducible repeat (first | refine kN ?_ _ | refine kD ?_ | refine kA ?_ _)); refine bxp8_5 (o := .int .i64 0) ?_; (with_reducible repeat (first | refine kN ?_ _ | refine kD ?_ | refine kA ?_ _)); exact BK102.out)⟩; have n2_ : Aside0 (Below w.heap.size w w32) := ⟨Below.trans (by repeat (first | (with_reducible first | exact HB.out | apply kL | apply kM | apply kE | refine kS ?_ GE101.out | refine kS ?_ GE102.out) | exact HB.out)) (hbel _ GE101.out)⟩; clear hblk hoth hbel; clear BK101; clear BK102; clear HB; have BK101 := n0_; have BK102 := n1_; have HB := n2_; clear n0_ n1_ n2_))
     refine bodyPost_ret (results_cell_row rfl _ _ gb101 25 #[.int .i64 (wrap64 (a1)), .int .i64 (wrap64 (a2)), .int .u8 ((1 + (Int.tmod a0 10)) % 256), .int .i64 (wrap64 (a3)), .int .i64 (wrap64 (a4)), .int .i64 (wrap64 (1 + (wrap64 (Int.tmod a5 3)))), .int .i64 (wrap64 (a6)), .bool a7] (0, 0) _ rfl (by (with_reducible repeat (first | refine kN ?_ _ | refine kD ?_ | refine kA ?_ _)); exact BK101.out) Tryd.underlying25 rfl (by kernel_rfl)) rfl ?_
     exact ⟨by first | rfl | (simp [errW_none, errW_some] <;> rfl) | (simp [*, errW_none, errW_some] <;> rfl), by repeat (first | (with_reducible first | exact HB.out | apply kL | apply kM | apply kE | refine kS ?_ GE101.out | refine kS ?_ GE102.out) | exact HB.out)⟩
    ·rw [if_neg c28] at H
     have c28b0 : (((1 + (Int.tmod a0 10)) % 256) == 2) = false := beq_eq_false_iff_ne.mpr c28
     have c28b1 : (((1 + (Int.tmod a0 10)) % 256) != 2) = true := bne_iff_ne.mpr c28
     simp only [Option.some.injEq, Prod.mk.injEq] at H
     obtain ⟨rfl, rfl, rfl, rfl, rfl, rfl, rfl, rfl⟩ := H
     have hnb33 := NB102_101.out
     have hnc33 := NB101_102.out
     obtain ⟨hcz34_0, hcz34_1, hcz34_2, hcz34_3, hcz34_4, hcz34_5, hcz34_6, hcz34_7, hfz34_0, hfz34_1, hfz34_2, hfz34_3, hfz34_4, hfz34_5, hfz34_6, hfz34_7⟩ := bxc8 BK102.out
     obtain ⟨hcz35_0, hcz35_1, hcz35_2, hcz35_3, hcz35_4, hcz35_5, hcz35_6, hcz35_7, hfz35_0, hfz35_1, hfz35_2, hfz35_3, hfz35_4, hfz35_5, hfz35_6, hfz35_7⟩ := bxc8 BK101.out
     go_wp2
     refine bodyPost_ret (results_cell_row rfl _ _ gb101 25 #[.int .i64 (wrap64 (a1)), .int .i64 (wrap64 (a2)), .int .u8 ((1 + (Int.tmod a0 10)) % 256), .int .i64 (wrap64 (a3)), .int .i64 (wrap64 (a4)), .int .i64 0, .int .i64 0, .bool a7] (0, 0) _ rfl (by (with_reducible repeat (first | refine kN ?_ _ | refine kD ?_ | refine kA ?_ _)); refine bxw8 (.int .i64 0) (.int .i64 0) (.int .u8 0) (.int .i64 0) (.int .i64 0) (.int .i64 0) (.int .i64 0) (.bool false) ?_; (with_reducible repeat (first | refine kN ?_ _ | refine kD ?_ | refine kA ?_ _)); exact BK101.out) Tryd.underlying25 rfl (by kernel_rfl)) rfl ?_
     exact ⟨by first | rfl | (simp [errW_none, errW_some] <;> rfl) | (simp [*, errW_none, errW_some] <;> rfl), by repeat (first | (with_reducible first | exact HB.out | apply kL | apply kM | apply kE | refine kS ?_ GE101.out | refine kS ?_ GE102.out) | exact HB.out)⟩

end Go.Proofs.YtlfaaogifplgeaaDoor.PA
