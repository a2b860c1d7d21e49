-- printed by this workplace: wip/patchprint.py over the kit's print
import Derived.Test.YtlihgjonmliodaaPAx0
import Derived.Test.YtlihgjonmliodaaPAx21
namespace Go.Proofs.Ytlihgjonmliodaa.PA
open Go.RowKit Go.Proofs.YtlihgjonmliodaaW.PrintWords Go.Proofs.YtlihgjonmliodaaW.PrintLast Go.Proofs.YtlihgjonmliodaaW.PrintMore
attribute [local go_sem] max2_int min2_int max_two min_two max_three min_three max_four min_four   -- for this text's walks alone
set_option linter.unusedVariables false
set_option linter.unusedSimpArgs false

/-! ### pack_Box_Get: function 32 -/
mutual
def pack_Box_Get.l0 : Nat → Int → Int → Int → Int → Int → List Int → Int → Option (Int × List Int × Int)
 | 0, _, _, _, _, _, _, _ => none
 | k + 1, x1, x2, x7, x24, x25, x1000, x1001 => if x25 < x24 then (if 0 ≤ x25 then (if x25 < (x1000.length : Int) then (if (rd x1000 x25) ≥ 128 then ((pack_Box_fail.f x1000 x1001 4).bind fun bt364 => (some (0, bt364.1, bt364.2))) else (if x25 = 10 then (pack_Box_Get.j1 k x1 x2 x7 x25 (rd x1000 x25) x24 x25 (decide ((rd x1000 x25) ≥ 16)) x1000 x1001) else (pack_Box_Get.j1 k x1 x2 x7 x25 (rd x1000 x25) x24 x25 false x1000 x1001))) else (none)) else (none)) else ((pack_Box_fail.f x1000 x1001 5).bind fun bt359 => (some (0, bt359.1, bt359.2)))
def pack_Box_Get.j2 : Nat → Int → Int → Int → Int → Int → Int → Int → List Int → Int → Option (Int × List Int × Int)
 | 0, _, _, _, _, _, _, _, _, _ => none
 | k + 1, x1, x2, x7, x8, x9, x24, x25, x1000, x1001 => if 0 ≤ (wrap64 (6 * x8)) then (if x9 ≥ 64 then (pack_Box_Get.l0 k x1 x2 (Go.bits .or .u64 x7 (shl .u64 (IntKind.u64.wrap (Int.tmod x9 64)) (wrap64 (6 * x8)))) x24 (wrap64 (x25 + 1)) x1000 x1001) else (if (Go.bits .xor .i64 (wrap64 ((Go.bits .or .u64 x7 (shl .u64 (IntKind.u64.wrap (Int.tmod x9 64)) (wrap64 (6 * x8)))) / 2)) (wrap64 (-(wrap64 (Go.bits .and .u64 (Go.bits .or .u64 x7 (shl .u64 (IntKind.u64.wrap (Int.tmod x9 64)) (wrap64 (6 * x8)))) 1))))) < x1 then ((pack_Box_fail.f x1000 x1001 1).bind fun bt376 => (some (0, bt376.1, bt376.2))) else (if (Go.bits .xor .i64 (wrap64 ((Go.bits .or .u64 x7 (shl .u64 (IntKind.u64.wrap (Int.tmod x9 64)) (wrap64 (6 * x8)))) / 2)) (wrap64 (-(wrap64 (Go.bits .and .u64 (Go.bits .or .u64 x7 (shl .u64 (IntKind.u64.wrap (Int.tmod x9 64)) (wrap64 (6 * x8)))) 1))))) > x2 then ((pack_Box_fail.f x1000 x1001 1).bind fun bt380 => (some (0, bt380.1, bt380.2))) else (if 0 ≤ (wrap64 (x8 + 1)) then (if (wrap64 (x8 + 1)) ≤ (x1000.length : Int) then (some (Go.bits .xor .i64 (wrap64 ((Go.bits .or .u64 x7 (shl .u64 (IntKind.u64.wrap (Int.tmod x9 64)) (wrap64 (6 * x8)))) / 2)) (wrap64 (-(wrap64 (Go.bits .and .u64 (Go.bits .or .u64 x7 (shl .u64 (IntKind.u64.wrap (Int.tmod x9 64)) (wrap64 (6 * x8)))) 1)))), (x1000.drop ((wrap64 (x8 + 1)) : Int).toNat), x1001)) else (none)) else (none))))) else (none)
def pack_Box_Get.j1 : Nat → Int → Int → Int → Int → Int → Int → Int → Bool → List Int → Int → Option (Int × List Int × Int)
 | 0, _, _, _, _, _, _, _, _, _, _ => none
 | k + 1, x1, x2, x7, x8, x9, x24, x25, x30, x1000, x1001 => if x30 = true then ((pack_Box_fail.f x1000 x1001 4).bind fun bt368 => (some (0, bt368.1, bt368.2))) else (if x8 > 0 then (if x9 = 0 then ((pack_Box_fail.f x1000 x1001 4).bind fun bt372 => (some (0, bt372.1, bt372.2))) else (pack_Box_Get.j2 k x1 x2 x7 x8 x9 x24 x25 x1000 x1001)) else (pack_Box_Get.j2 k x1 x2 x7 x8 x9 x24 x25 x1000 x1001))
end
def pack_Box_Get.f (k : Nat) (l0_0 : List Int) (a0_1 : Int) (a1 : Int) (a2 : Int) : Option (Int × List Int × Int) := if a0_1 = 0 then (pack_Box_Get.l0 k a1 a2 0 (l0_0.length : Int) 0 l0_0 a0_1) else (some (0, l0_0, a0_1))
theorem pack_Box_Get.mono_l : ∀ k, (∀ y0 y1 y2 y3 y4 y5 y6, LeO (pack_Box_Get.l0 k y0 y1 y2 y3 y4 y5 y6) (pack_Box_Get.l0 (k + 1) y0 y1 y2 y3 y4 y5 y6)) ∧ (∀ y0 y1 y2 y3 y4 y5 y6 y7 y8, LeO (pack_Box_Get.j2 k y0 y1 y2 y3 y4 y5 y6 y7 y8) (pack_Box_Get.j2 (k + 1) y0 y1 y2 y3 y4 y5 y6 y7 y8)) ∧ (∀ y0 y1 y2 y3 y4 y5 y6 y7 y8 y9, LeO (pack_Box_Get.j1 k y0 y1 y2 y3 y4 y5 y6 y7 y8 y9) (pack_Box_Get.j1 (k + 1) y0 y1 y2 y3 y4 y5 y6 y7 y8 y9))
 | 0 => ⟨fun _ _ _ _ _ _ _ r h => by simp [pack_Box_Get.l0] at h, fun _ _ _ _ _ _ _ _ _ r h => by simp [pack_Box_Get.j2] at h, fun _ _ _ _ _ _ _ _ _ _ r h => by simp [pack_Box_Get.j1] at h⟩
 | k + 1 => by
  obtain ⟨ih0, ih1, ih2⟩ := pack_Box_Get.mono_l k
  refine ⟨?_, ?_, ?_⟩
  ·intro y0 y1 y2 y3 y4 y5 y6
   unfold pack_Box_Get.l0
   repeat' first
   | (with_reducible exact ih0 _ _ _ _ _ _ _)
   | (with_reducible exact ih1 _ _ _ _ _ _ _ _ _)
   | (with_reducible exact ih2 _ _ _ _ _ _ _ _ _ _)
   | (with_reducible exact LeO.refl _)
   | (with_reducible exact LeO.none _)
   | (with_reducible refine LeO.ite ?_ ?_)
   | (with_reducible refine LeO.bind ?_ (fun _ => ?_))
   | exact ih0 _ _ _ _ _ _ _
   | exact ih1 _ _ _ _ _ _ _ _ _
   | exact ih2 _ _ _ _ _ _ _ _ _ _
   | exact LeO.none _
   | refine LeO.ite ?_ ?_
   | refine LeO.bind ?_ (fun _ => ?_)
  ·intro y0 y1 y2 y3 y4 y5 y6 y7 y8
   unfold pack_Box_Get.j2
   repeat' first
   | (with_reducible exact ih0 _ _ _ _ _ _ _)
   | (with_reducible exact ih1 _ _ _ _ _ _ _ _ _)
   | (with_reducible exact ih2 _ _ _ _ _ _ _ _ _ _)
   | (with_reducible exact LeO.refl _)
   | (with_reducible exact LeO.none _)
   | (with_reducible refine LeO.ite ?_ ?_)
   | (with_reducible refine LeO.bind ?_ (fun _ => ?_))
   | exact ih0 _ _ _ _ _ _ _
   | exact ih1 _ _ _ _ _ _ _ _ _
   | exact ih2 _ _ _ _ _ _ _ _ _ _
   | exact LeO.none _
   | refine LeO.ite ?_ ?_
   | refine LeO.bind ?_ (fun _ => ?_)
  ·intro y0 y1 y2 y3 y4 y5 y6 y7 y8 y9
   unfold pack_Box_Get.j1
   repeat' first
   | (with_reducible exact ih0 _ _ _ _ _ _ _)
   | (with_reducible exact ih1 _ _ _ _ _ _ _ _ _)
   | (with_reducible exact ih2 _ _ _ _ _ _ _ _ _ _)
   | (with_reducible exact LeO.refl _)
   | (with_reducible exact LeO.none _)
   | (with_reducible refine LeO.ite ?_ ?_)
   | (with_reducible refine LeO.bind ?_ (fun _ => ?_))
   | exact ih0 _ _ _ _ _ _ _
   | exact ih1 _ _ _ _ _ _ _ _ _
   | exact ih2 _ _ _ _ _ _ _ _ _ _
   | exact LeO.none _
   | refine LeO.ite ?_ ?_
   | refine LeO.bind ?_ (fun _ => ?_)
theorem pack_Box_Get.mono : ∀ a0 a1 a2 a3 k, LeO (pack_Box_Get.f k a0 a1 a2 a3) (pack_Box_Get.f (k + 1) a0 a1 a2 a3) := by
 intro a0 a1 a2 a3 k
 obtain ⟨ih0, ih1, ih2⟩ := pack_Box_Get.mono_l k
 unfold pack_Box_Get.f
 repeat' first
   | (with_reducible exact ih0 _ _ _ _ _ _ _)
   | (with_reducible exact ih1 _ _ _ _ _ _ _ _ _)
   | (with_reducible exact ih2 _ _ _ _ _ _ _ _ _ _)
   | (with_reducible exact LeO.refl _)
   | (with_reducible exact LeO.none _)
   | (with_reducible refine LeO.ite ?_ ?_)
   | (with_reducible refine LeO.bind ?_ (fun _ => ?_))
   | exact ih0 _ _ _ _ _ _ _
   | exact ih1 _ _ _ _ _ _ _ _ _
   | exact ih2 _ _ _ _ _ _ _ _ _ _
   | exact LeO.none _
   | refine LeO.ite ?_ ?_
   | refine LeO.bind ?_ (fun _ => ?_)
set_option maxHeartbeats 40000000 in
set_option maxRecDepth 100000 in
theorem pack_Box_Get.calls (k : Nat) (gx0 : Nat) (P0_0_ : Nat → Prop) (u9000_ : Value) (l0_0 : List Int) (a0_1 : Int) (a1 : Int) (a2 : Int) (r1 : Int) (r2 : List Int) (r3 : Int) (w0 w : World) (hB : Below w0.heap.size w0 w) (hbx0 : w.heap[gx0]? = some (.cells #[u9000_, .int .i64 a0_1] 60 (0, 0))) (hge0 : w0.heap.size ≤ gx0) (ho0_0 : Kd.Q (Kd.int .u8) 5 w w0.heap.size P0_0_ u9000_ l0_0) (h : pack_Box_Get.f k l0_0 a0_1 a1 a2 = some (r1, r2, r3)) :
  Calls Try.prog 32 #[.pointer (some ⟨gx0, 0, none⟩), .int .i64 a1, .int .i64 a2] w fun e w' => ∃ v1_ : Value, e = .returned (.int .i64 r1) ∧ Kd.Q (Kd.int .u8) 5 w' w0.heap.size (fun k_ => (P0_0_ k_ ∨ w.heap.size ≤ k_)) v1_ r2 ∧ w'.heap[gx0]? = some (.cells #[v1_, .int .i64 r3] 60 (0, 0)) ∧ Below w0.heap.size w0 w' ∧ Kept w w' (fun k_ => (P0_0_ k_) ∨ k_ = gx0) := by
 have BK0 := Aside0.mk hbx0
 have GE0 := Aside0.mk hge0
 clear hbx0 hge0
 have HO0_0 := Aside0.mk (show Kd.Q (Kd.int .u8) 5 w w0.heap.size (fun k_ => (P0_0_ k_ ∨ w.heap.size ≤ k_)) u9000_ l0_0 from Kd.Q_mono ho0_0 (fun k_ hk => (.inl hk)))
 have HK := Aside0.mk (Kept.refl w (fun k_ => (P0_0_ k_) ∨ k_ = gx0))
 have HW0 := Aside0.mk hB.size
 have HB := Aside0.mk hB
 clear hB
 have H : (if a0_1 = 0 then (pack_Box_Get.l0 k a1 a2 0 (l0_0.length : Int) 0 l0_0 a0_1) else (some (0, l0_0, a0_1))) = some (r1, r2, r3) := h
 clear h
 by_cases c4 : a0_1 = 0
 ·rw [if_pos c4] at H
  have c4b0 : (a0_1 == 0) = true := beq_iff_eq.mpr c4
  have c4b1 : (a0_1 != 0) = false := bne_eq_false_iff_eq.mpr c4
  clear c4
  have H' := Aside0.mk H
  clear H
  have hcz5_0 : w.cell? ⟨gx0, 0, none⟩ = some (u9000_) := (kC BK0.out 0).trans rfl
  have hcz5_1 : w.cell? ⟨gx0, 1, none⟩ = some (.int .i64 a0_1) := (kC BK0.out 1).trans rfl
  have hfz5_0 := kF BK0.out 0
  have hfz5_1 := kF BK0.out 1
  obtain ⟨Ao6, co6, eo6, _⟩ := Kd.Q_slice HO0_0.out
  subst eo6
  go_enter Try.func32, Try.ntmps32
  go_wp2
  go_loopg [7, 25] k (fun kq v7 v25 w' => ∃ (x7_1 : Int) (x25_1 : Int) (x1001_1 : Int), v7 = .int .u64 x7_1 ∧ v25 = .int .i64 x25_1 ∧ Aside0 (pack_Box_Get.l0 kq a1 a2 x7_1 (l0_0.length : Int) x25_1 l0_0 x1001_1 = some (r1, r2, r3)) ∧ Aside0 (kq ≤ k) ∧ Aside0 (Kd.Q (Kd.int .u8) 5 w' w0.heap.size (fun k_ => (P0_0_ k_ ∨ w.heap.size ≤ k_)) (.slice Ao6 l0_0.length co6) l0_0) ∧ Aside0 (w'.heap[gx0]? = some (.cells #[(.slice Ao6 l0_0.length co6), .int .i64 x1001_1] 60 (0, 0))) ∧ Aside0 (Kept w w' (fun k_ => (P0_0_ k_) ∨ k_ = gx0)) ∧ Aside0 (Below w0.heap.size w0 w'))
  case atStart => exact ⟨(0), (0), (a0_1), (by first | rfl | (simp; done) | (simp [*]; done)), (by first | rfl | (simp; done) | (simp [*]; done)), H', ⟨Nat.le_refl _⟩, ⟨by (with_reducible repeat (first | apply Kd.Q_alloc | apply Kd.Q_drewN | apply Kd.Q_drew)); exact HO0_0.out⟩, ⟨by (with_reducible repeat (first | refine kN ?_ _ | refine kD ?_ | refine kA ?_ _)); exact BK0.out⟩, ⟨by repeat (first | (with_reducible first | exact HK.out | apply Kept.alloc | apply Kept.drewN | apply Kept.drew | refine Kept.setCell ?_ (.inl (.inr rfl)) _ | refine Kept.setCell ?_ (.inr GW0.out) _) | exact HK.out)⟩, ⟨by repeat (first | (with_reducible first | exact HB.out | apply kL | apply kM | apply kE | refine kS ?_ GE0.out) | exact HB.out)⟩⟩
  case round =>
   clear H'
   try clear p2
   try clear c3
   try clear c4
   try clear c4b0
   try clear c4b1
   try clear hcz5_0
   try clear hcz5_1
   try clear hfz5_0
   try clear hfz5_1
   obtain ⟨x7_1, x25_1, x1001_1, rfl, rfl, HA, HK1, HO_1000, BK0, HK, HB⟩ := hrel
   cases gk with
   | zero => exact absurd HA.out (by simp [pack_Box_Get.l0])
   | succ k1 =>
    have H := HA.out
    clear HA
    simp only [pack_Box_Get.l0] at H
    by_cases c7 : x25_1 < (l0_0.length : Int)
    ·rw [if_pos c7] at H
     have c7b0 : decide (x25_1 < (l0_0.length : Int)) = true := decide_eq_true c7
     clear c7
     by_cases c8 : 0 ≤ x25_1
     ·rw [if_pos c8] at H
      have c8b0 : decide (0 ≤ x25_1) = true := decide_eq_true c8
      clear c8
      by_cases c9 : x25_1 < (l0_0.length : Int)
      ·rw [if_pos c9] at H
       have c9b0 : decide (x25_1 < (l0_0.length : Int)) = true := decide_eq_true c9
       clear c9
       have HC10 := Aside0.mk H
       clear H
       have p363 : 0 ≤ (x25_1 : Int) := of_decide_eq_true (by first | (with_reducible assumption) | assumption)
       have q363 : x25_1 < (l0_0.length : Int) := of_decide_eq_true (by first | (with_reducible assumption) | assumption)
       obtain ⟨ad363, e363, hx363_0⟩ := Kd.at_int (Kd.Q_reads' HO_1000.out).2.2 x25_1 p363 q363
       cases e363
       replace p363 := eq_true p363
       replace q363 := eq_true q363
       go_upto_block 2 with (fail)
       go_cut [] (fun wc => ∃ (kq : Nat) (x1001_9 : Int), Aside0 (pack_Box_Get.j2 kq a1 a2 x7_1 x25_1 (rd l0_0 x25_1) (l0_0.length : Int) x25_1 l0_0 x1001_9 = some (r1, r2, r3)) ∧ Aside0 (kq ≤ k1) ∧ Aside0 (Kd.Q (Kd.int .u8) 5 wc w0.heap.size (fun k_ => (P0_0_ k_ ∨ w.heap.size ≤ k_)) (.slice (some ad363) l0_0.length co6) l0_0) ∧ Aside0 (wc.heap[gx0]? = some (.cells #[(.slice (some ad363) l0_0.length co6), .int .i64 x1001_9] 60 (0, 0))) ∧ Aside0 (Kept w wc (fun k_ => (P0_0_ k_) ∨ k_ = gx0)) ∧ Aside0 (Below w0.heap.size w0 wc))
       case first =>
        have H := HC10.out
        clear HC10
        by_cases c11 : (rd l0_0 x25_1) ≥ 128
        ·rw [if_pos c11] at H
         have c11b0 : decide (128 ≤ (rd l0_0 x25_1)) = true := decide_eq_true c11
         clear c11
         (first | (generalize hg_ : decide (128 ≤ (rd l0_0 x25_1)) = bg_ at *; subst c11b0; have c11b0 := hg_; clear hg_) | rw [c11b0] | (simp only [i64_w, i32_w]; rw [c11b0]) | skip)
         replace H := Option.bind_eq_some_iff.mp H
         obtain ⟨⟨t364, t367⟩, A120, H⟩ := H
         replace H : (some (0, t364, t367)) = some (r1, r2, r3) := H
         have A12 := Aside0.mk A120
         clear A120
         simp only [Option.some.injEq, Prod.mk.injEq] at H
         obtain ⟨rfl, rfl, rfl⟩ := H
         go_wp2_with (first | ((with_reducible refine gate_callee (f := 37) rfl ?_); refine goesL_ (some 46) rfl rfl Try.func37 (by kernel_rfl) rfl #[.pointer (some ⟨gx0, 0, none⟩), .int .i64 4] rfl (by (try simp only [List.map_toArray, List.map_cons, List.map_nil]); first | done | rfl | (simp only [List.length_drop, List.length_take]; rfl)) ?_; (with_reducible refine (pack_Box_fail.calls gx0 (fun k_ => some k_ = (.slice (some ad363) l0_0.length co6 : Value).ownBlock) (.slice (some ad363) l0_0.length co6) l0_0 x1001_1 4 t364 t367 w0 _ ?side1 ?side2 ?side3 ?side4 A12.out).mono ?_); (case side1 => repeat (first | (with_reducible first | exact HB.out | apply kL | apply kM | apply kE | refine kS ?_ GE0.out) | exact HB.out)); (case side2 => exact (by (with_reducible repeat (first | refine kN ?_ _ | refine kD ?_ | refine kA ?_ _)); exact BK0.out)); (case side3 => exact GE0.out); (case side4 => exact Kd.Q_tight rfl HO_1000.out); rintro e w13 ⟨v365, rfl, ho0, hi, hb, hkp⟩; refine ⟨_, rfl, ?_⟩; have n0_ := Aside0.mk (hi); have n1_ := Aside0.mk (Kd.Q_mono (ok' := fun k_ => (P0_0_ k_ ∨ w.heap.size ≤ k_)) ho0 (fun k_ hk_ => Or.elim hk_ (fun hs_ => (HO_1000.out.1 k_ (hs_).symm)) (fun hn_ => (.inr (Nat.le_trans (by first | exact HK.out.1 | exact (show Kept w _ (fun k_ => (P0_0_ k_) ∨ k_ = gx0) from by repeat (first | (with_reducible first | exact HK.out | apply Kept.alloc | apply Kept.drewN | apply Kept.drew | refine Kept.setCell ?_ (.inl (.inr rfl)) _ | refine Kept.setCell ?_ (.inr GW0.out) _) | exact HK.out)).1) hn_))))); have n2_ := Aside0.mk (Kept.then_ (S := (fun k_ => (P0_0_ k_) ∨ k_ = gx0)) (by repeat (first | (with_reducible first | exact HK.out | apply Kept.alloc | apply Kept.drewN | apply Kept.drew | refine Kept.setCell ?_ (.inl (.inr rfl)) _ | refine Kept.setCell ?_ (.inr GW0.out) _) | exact HK.out)) hkp (fun k_ hs_ => Or.elim hs_ (fun hs_ => (fun e_ => Or.imp_left Or.inl ((HO_1000.out.1 k_ e_.symm))) hs_) (fun e_ => .inl (.inr e_)))); have n3_ := Aside0.mk (hb); clear BK0; clear HK; clear HB; clear HO_1000; have BK0 := n0_; have HO366 := n1_; have HK := n2_; have HB := n3_; clear n0_ n1_ n2_ n3_; (try clear hb); (try clear hkp); (try clear hi); (try clear ho0)))
         go_ret
         exact ⟨(v365), by first | rfl | (simp [errW_none, errW_some] <;> rfl) | (simp [*, errW_none, errW_some] <;> rfl), by (with_reducible repeat (first | apply Kd.Q_alloc | apply Kd.Q_drewN | apply Kd.Q_drew)); exact HO366.out, by (with_reducible repeat (first | refine kN ?_ _ | refine kD ?_ | refine kA ?_ _)); exact BK0.out, by repeat (first | (with_reducible first | exact HB.out | apply kL | apply kM | apply kE | refine kS ?_ GE0.out) | exact HB.out), by repeat (first | (with_reducible first | exact HK.out | apply Kept.alloc | apply Kept.drewN | apply Kept.drew | refine Kept.setCell ?_ (.inl (.inr rfl)) _ | refine Kept.setCell ?_ (.inr GW0.out) _) | exact HK.out)⟩
        ·rw [if_neg c11] at H
         have c11b0 : decide (128 ≤ (rd l0_0 x25_1)) = false := decide_eq_false c11
         clear c11
         (first | (generalize hg_ : decide (128 ≤ (rd l0_0 x25_1)) = bg_ at *; subst c11b0; have c11b0 := hg_; clear hg_) | rw [c11b0] | (simp only [i64_w, i32_w]; rw [c11b0]) | skip)
         have HC14 := Aside0.mk H
         clear H
         go_upto_region 8 with (fail)
         go_cut [30] (fun v30 wc => ∃ (kq : Nat) (x30_13 : Bool), v30 = .bool x30_13 ∧ Aside0 (pack_Box_Get.j1 kq a1 a2 x7_1 x25_1 (rd l0_0 x25_1) (l0_0.length : Int) x25_1 x30_13 l0_0 x1001_1 = some (r1, r2, r3)) ∧ Aside0 (kq ≤ k1) ∧ Aside0 (Kd.Q (Kd.int .u8) 5 wc w0.heap.size (fun k_ => (P0_0_ k_ ∨ w.heap.size ≤ k_)) (.slice (some ad363) l0_0.length co6) l0_0) ∧ Aside0 (wc.heap[gx0]? = some (.cells #[(.slice (some ad363) l0_0.length co6), .int .i64 x1001_1] 60 (0, 0))) ∧ Aside0 (Kept w wc (fun k_ => (P0_0_ k_) ∨ k_ = gx0)) ∧ Aside0 (Below w0.heap.size w0 wc))
         case first =>
          have H := HC14.out
          clear HC14
          by_cases c15 : x25_1 = 10
          ·rw [if_pos c15] at H
           have c15b0 : (x25_1 == 10) = true := beq_iff_eq.mpr c15
           have c15b1 : (x25_1 != 10) = false := bne_eq_false_iff_eq.mpr c15
           clear c15
           (first | (generalize hg_ : (x25_1 == 10) = bg_ at *; subst c15b0; have c15b0 := hg_; clear hg_) | rw [c15b0] | (simp only [i64_w, i32_w]; rw [c15b0]) | skip)
           have H' := Aside0.mk H
           clear H
           go_wp2
           go_meet
           case rel => exact ⟨_, (decide ((rd l0_0 x25_1) ≥ 16)), (by first | rfl | (simp; done) | (simp [*]; done)), (by first | (with_reducible exact H') | (simp only [*]; with_reducible exact H') | exact H'), ⟨by have := HK1.out; first | omega | exact Nat.le_refl _⟩, ⟨by (with_reducible repeat (first | apply Kd.Q_alloc | apply Kd.Q_drewN | apply Kd.Q_drew)); exact HO_1000.out⟩, ⟨by (with_reducible repeat (first | refine kN ?_ _ | refine kD ?_ | refine kA ?_ _)); exact BK0.out⟩, ⟨by repeat (first | (with_reducible first | exact HK.out | apply Kept.alloc | apply Kept.drewN | apply Kept.drew | refine Kept.setCell ?_ (.inl (.inr rfl)) _ | refine Kept.setCell ?_ (.inr GW0.out) _) | exact HK.out)⟩, ⟨by repeat (first | (with_reducible first | exact HB.out | apply kL | apply kM | apply kE | refine kS ?_ GE0.out) | exact HB.out)⟩⟩
          ·rw [if_neg c15] at H
           have c15b0 : (x25_1 == 10) = false := beq_eq_false_iff_ne.mpr c15
           have c15b1 : (x25_1 != 10) = true := bne_iff_ne.mpr c15
           (first | (generalize hg_ : (x25_1 == 10) = bg_ at *; subst c15b0; have c15b0 := hg_; clear hg_) | rw [c15b0] | (simp only [i64_w, i32_w]; rw [c15b0]) | skip)
           have H' := Aside0.mk H
           clear H
           go_wp2
           go_meet
           case rel => exact ⟨_, (false), (by first | rfl | (simp; done) | (simp [*]; done)), (by first | (with_reducible exact H') | (simp only [*]; with_reducible exact H') | exact H'), ⟨by have := HK1.out; first | omega | exact Nat.le_refl _⟩, ⟨by (with_reducible repeat (first | apply Kd.Q_alloc | apply Kd.Q_drewN | apply Kd.Q_drew)); exact HO_1000.out⟩, ⟨by (with_reducible repeat (first | refine kN ?_ _ | refine kD ?_ | refine kA ?_ _)); exact BK0.out⟩, ⟨by repeat (first | (with_reducible first | exact HK.out | apply Kept.alloc | apply Kept.drewN | apply Kept.drew | refine Kept.setCell ?_ (.inl (.inr rfl)) _ | refine Kept.setCell ?_ (.inr GW0.out) _) | exact HK.out)⟩, ⟨by repeat (first | (with_reducible first | exact HB.out | apply kL | apply kM | apply kE | refine kS ?_ GE0.out) | exact HB.out)⟩⟩
         case rest =>
          clear HC14
          try clear c1
          try clear p2
          try clear c3
          try clear p3
          try clear q3
          try clear hx3
          try clear c4
          try clear c4b0
          try clear c4b1
          try clear c7
          try clear c7b0
          try clear c8
          try clear c8b0
          try clear c9
          try clear c9b0
          try clear c11
          try clear c11b0
          try clear c15
          try clear c15b0
          try clear c15b1
          try clear hcz5_0
          try clear hcz5_1
          try clear hfz5_0
          try clear hfz5_1
          try clear hx363_0
          try clear p2
          try clear p363
          try clear q363
          obtain ⟨kq, x30_13, rfl, HA, HJ13, HO_1000, BK0, HK, HB⟩ := hcut
          cases kq with
          | zero => exact absurd HA.out (by simp [pack_Box_Get.j1])
          | succ kj13 =>
           have H := HA.out
           clear HA
           simp only [pack_Box_Get.j1] at H
           by_cases c16 : x30_13 = true
           ·subst c16
            have H1 : ((pack_Box_fail.f l0_0 x1001_1 4).bind fun bt368 => (some (0, bt368.1, bt368.2))) = some (r1, r2, r3) := by rw [if_pos rfl] at H; try exact H
            clear H
            have H := H1
            clear H1
            replace H := Option.bind_eq_some_iff.mp H
            obtain ⟨⟨t368, t371⟩, A170, H⟩ := H
            replace H : (some (0, t368, t371)) = some (r1, r2, r3) := H
            have A17 := Aside0.mk A170
            clear A170
            simp only [Option.some.injEq, Prod.mk.injEq] at H
            obtain ⟨rfl, rfl, rfl⟩ := H
            go_wp2_with (first | ((with_reducible refine gate_callee (f := 37) rfl ?_); refine goesL_ (some 46) rfl rfl Try.func37 (by kernel_rfl) rfl #[.pointer (some ⟨gx0, 0, none⟩), .int .i64 4] rfl (by (try simp only [List.map_toArray, List.map_cons, List.map_nil]); first | done | rfl | (simp only [List.length_drop, List.length_take]; rfl)) ?_; (with_reducible refine (pack_Box_fail.calls gx0 (fun k_ => some k_ = (.slice (some ad363) l0_0.length co6 : Value).ownBlock) (.slice (some ad363) l0_0.length co6) l0_0 x1001_1 4 t368 t371 w0 _ ?side1 ?side2 ?side3 ?side4 A17.out).mono ?_); (case side1 => repeat (first | (with_reducible first | exact HB.out | apply kL | apply kM | apply kE | refine kS ?_ GE0.out) | exact HB.out)); (case side2 => exact (by (with_reducible repeat (first | refine kN ?_ _ | refine kD ?_ | refine kA ?_ _)); exact BK0.out)); (case side3 => exact GE0.out); (case side4 => exact Kd.Q_tight rfl HO_1000.out); rintro e w18 ⟨v369, rfl, ho0, hi, hb, hkp⟩; refine ⟨_, rfl, ?_⟩; have n0_ := Aside0.mk (hi); have n1_ := Aside0.mk (Kd.Q_mono (ok' := fun k_ => (P0_0_ k_ ∨ w.heap.size ≤ k_)) ho0 (fun k_ hk_ => Or.elim hk_ (fun hs_ => (HO_1000.out.1 k_ (hs_).symm)) (fun hn_ => (.inr (Nat.le_trans (by first | exact HK.out.1 | exact (show Kept w _ (fun k_ => (P0_0_ k_) ∨ k_ = gx0) from by repeat (first | (with_reducible first | exact HK.out | apply Kept.alloc | apply Kept.drewN | apply Kept.drew | refine Kept.setCell ?_ (.inl (.inr rfl)) _ | refine Kept.setCell ?_ (.inr GW0.out) _) | exact HK.out)).1) hn_))))); have n2_ := Aside0.mk (Kept.then_ (S := (fun k_ => (P0_0_ k_) ∨ k_ = gx0)) (by repeat (first | (with_reducible first | exact HK.out | apply Kept.alloc | apply Kept.drewN | apply Kept.drew | refine Kept.setCell ?_ (.inl (.inr rfl)) _ | refine Kept.setCell ?_ (.inr GW0.out) _) | exact HK.out)) hkp (fun k_ hs_ => Or.elim hs_ (fun hs_ => (fun e_ => Or.imp_left Or.inl ((HO_1000.out.1 k_ e_.symm))) hs_) (fun e_ => .inl (.inr e_)))); have n3_ := Aside0.mk (hb); clear BK0; clear HK; clear HB; clear HO_1000; have BK0 := n0_; have HO370 := n1_; have HK := n2_; have HB := n3_; clear n0_ n1_ n2_ n3_; (try clear hb); (try clear hkp); (try clear hi); (try clear ho0)))
            go_ret
            exact ⟨(v369), by first | rfl | (simp [errW_none, errW_some] <;> rfl) | (simp [*, errW_none, errW_some] <;> rfl), by (with_reducible repeat (first | apply Kd.Q_alloc | apply Kd.Q_drewN | apply Kd.Q_drew)); exact HO370.out, by (with_reducible repeat (first | refine kN ?_ _ | refine kD ?_ | refine kA ?_ _)); exact BK0.out, by repeat (first | (with_reducible first | exact HB.out | apply kL | apply kM | apply kE | refine kS ?_ GE0.out) | exact HB.out), by repeat (first | (with_reducible first | exact HK.out | apply Kept.alloc | apply Kept.drewN | apply Kept.drew | refine Kept.setCell ?_ (.inl (.inr rfl)) _ | refine Kept.setCell ?_ (.inr GW0.out) _) | exact HK.out)⟩
           ·replace c16 := Bool.eq_false_iff.mpr c16
            subst c16
            have H1 : (if x25_1 > 0 then (if (rd l0_0 x25_1) = 0 then ((pack_Box_fail.f l0_0 x1001_1 4).bind fun bt372 => (some (0, bt372.1, bt372.2))) else (pack_Box_Get.j2 kj13 a1 a2 x7_1 x25_1 (rd l0_0 x25_1) (l0_0.length : Int) x25_1 l0_0 x1001_1)) else (pack_Box_Get.j2 kj13 a1 a2 x7_1 x25_1 (rd l0_0 x25_1) (l0_0.length : Int) x25_1 l0_0 x1001_1)) = some (r1, r2, r3) := by rw [if_neg (show ¬ (false = true) by decide)] at H; try exact H
            clear H
            have H := H1
            clear H1
            by_cases c19 : x25_1 > 0
            ·rw [if_pos c19] at H
             have c19b0 : decide (0 < x25_1) = true := decide_eq_true c19
             clear c19
             by_cases c20 : (rd l0_0 x25_1) = 0
             ·rw [if_pos c20] at H
              have c20b0 : ((rd l0_0 x25_1) == 0) = true := beq_iff_eq.mpr c20
              have c20b1 : ((rd l0_0 x25_1) != 0) = false := bne_eq_false_iff_eq.mpr c20
              clear c20
              replace H := Option.bind_eq_some_iff.mp H
              obtain ⟨⟨t372, t375⟩, A210, H⟩ := H
              replace H : (some (0, t372, t375)) = some (r1, r2, r3) := H
              have A21 := Aside0.mk A210
              clear A210
              simp only [Option.some.injEq, Prod.mk.injEq] at H
              obtain ⟨rfl, rfl, rfl⟩ := H
              go_wp2_with (first | ((with_reducible refine gate_callee (f := 37) rfl ?_); refine goesL_ (some 46) rfl rfl Try.func37 (by kernel_rfl) rfl #[.pointer (some ⟨gx0, 0, none⟩), .int .i64 4] rfl (by (try simp only [List.map_toArray, List.map_cons, List.map_nil]); first | done | rfl | (simp only [List.length_drop, List.length_take]; rfl)) ?_; (with_reducible refine (pack_Box_fail.calls gx0 (fun k_ => some k_ = (.slice (some ad363) l0_0.length co6 : Value).ownBlock) (.slice (some ad363) l0_0.length co6) l0_0 x1001_1 4 t372 t375 w0 _ ?side1 ?side2 ?side3 ?side4 A21.out).mono ?_); (case side1 => repeat (first | (with_reducible first | exact HB.out | apply kL | apply kM | apply kE | refine kS ?_ GE0.out) | exact HB.out)); (case side2 => exact (by (with_reducible repeat (first | refine kN ?_ _ | refine kD ?_ | refine kA ?_ _)); exact BK0.out)); (case side3 => exact GE0.out); (case side4 => exact Kd.Q_tight rfl HO_1000.out); rintro e w22 ⟨v373, rfl, ho0, hi, hb, hkp⟩; refine ⟨_, rfl, ?_⟩; have n0_ := Aside0.mk (hi); have n1_ := Aside0.mk (Kd.Q_mono (ok' := fun k_ => (P0_0_ k_ ∨ w.heap.size ≤ k_)) ho0 (fun k_ hk_ => Or.elim hk_ (fun hs_ => (HO_1000.out.1 k_ (hs_).symm)) (fun hn_ => (.inr (Nat.le_trans (by first | exact HK.out.1 | exact (show Kept w _ (fun k_ => (P0_0_ k_) ∨ k_ = gx0) from by repeat (first | (with_reducible first | exact HK.out | apply Kept.alloc | apply Kept.drewN | apply Kept.drew | refine Kept.setCell ?_ (.inl (.inr rfl)) _ | refine Kept.setCell ?_ (.inr GW0.out) _) | exact HK.out)).1) hn_))))); have n2_ := Aside0.mk (Kept.then_ (S := (fun k_ => (P0_0_ k_) ∨ k_ = gx0)) (by repeat (first | (with_reducible first | exact HK.out | apply Kept.alloc | apply Kept.drewN | apply Kept.drew | refine Kept.setCell ?_ (.inl (.inr rfl)) _ | refine Kept.setCell ?_ (.inr GW0.out) _) | exact HK.out)) hkp (fun k_ hs_ => Or.elim hs_ (fun hs_ => (fun e_ => Or.imp_left Or.inl ((HO_1000.out.1 k_ e_.symm))) hs_) (fun e_ => .inl (.inr e_)))); have n3_ := Aside0.mk (hb); clear BK0; clear HK; clear HB; clear HO_1000; have BK0 := n0_; have HO374 := n1_; have HK := n2_; have HB := n3_; clear n0_ n1_ n2_ n3_; (try clear hb); (try clear hkp); (try clear hi); (try clear ho0)))
              go_ret
              exact ⟨(v373), by first | rfl | (simp [errW_none, errW_some] <;> rfl) | (simp [*, errW_none, errW_some] <;> rfl), by (with_reducible repeat (first | apply Kd.Q_alloc | apply Kd.Q_drewN | apply Kd.Q_drew)); exact HO374.out, by (with_reducible repeat (first | refine kN ?_ _ | refine kD ?_ | refine kA ?_ _)); exact BK0.out, by repeat (first | (with_reducible first | exact HB.out | apply kL | apply kM | apply kE | refine kS ?_ GE0.out) | exact HB.out), by repeat (first | (with_reducible first | exact HK.out | apply Kept.alloc | apply Kept.drewN | apply Kept.drew | refine Kept.setCell ?_ (.inl (.inr rfl)) _ | refine Kept.setCell ?_ (.inr GW0.out) _) | exact HK.out)⟩
             ·rw [if_neg c20] at H
              have c20b0 : ((rd l0_0 x25_1) == 0) = false := beq_eq_false_iff_ne.mpr c20
              have c20b1 : ((rd l0_0 x25_1) != 0) = true := bne_iff_ne.mpr c20
              have H' := Aside0.mk H
              clear H
              go_wp2
              go_meet
              case rel => exact ⟨_, (x1001_1), (by first | (with_reducible exact H') | (simp only [*]; with_reducible exact H') | exact H'), ⟨by have := HK1.out; have := HJ13.out; first | omega | exact Nat.le_refl _⟩, ⟨by (with_reducible repeat (first | apply Kd.Q_alloc | apply Kd.Q_drewN | apply Kd.Q_drew)); exact HO_1000.out⟩, ⟨by (with_reducible repeat (first | refine kN ?_ _ | refine kD ?_ | refine kA ?_ _)); exact BK0.out⟩, ⟨by repeat (first | (with_reducible first | exact HK.out | apply Kept.alloc | apply Kept.drewN | apply Kept.drew | refine Kept.setCell ?_ (.inl (.inr rfl)) _ | refine Kept.setCell ?_ (.inr GW0.out) _) | exact HK.out)⟩, ⟨by repeat (first | (with_reducible first | exact HB.out | apply kL | apply kM | apply kE | refine kS ?_ GE0.out) | exact HB.out)⟩⟩
            ·rw [if_neg c19] at H
             have c19b0 : decide (0 < x25_1) = false := decide_eq_false c19
             clear c19
             have H' := Aside0.mk H
             clear H
             go_wp2
             go_meet
             case rel => exact ⟨_, (x1001_1), (by first | (with_reducible exact H') | (simp only [*]; with_reducible exact H') | exact H'), ⟨by have := HK1.out; have := HJ13.out; first | omega | exact Nat.le_refl _⟩, ⟨by (with_reducible repeat (first | apply Kd.Q_alloc | apply Kd.Q_drewN | apply Kd.Q_drew)); exact HO_1000.out⟩, ⟨by (with_reducible repeat (first | refine kN ?_ _ | refine kD ?_ | refine kA ?_ _)); exact BK0.out⟩, ⟨by repeat (first | (with_reducible first | exact HK.out | apply Kept.alloc | apply Kept.drewN | apply Kept.drew | refine Kept.setCell ?_ (.inl (.inr rfl)) _ | refine Kept.setCell ?_ (.inr GW0.out) _) | exact HK.out)⟩, ⟨by repeat (first | (with_reducible first | exact HB.out | apply kL | apply kM | apply kE | refine kS ?_ GE0.out) | exact HB.out)⟩⟩
       case rest =>
        clear HC10
        try clear c1
        try clear c2
        try clear p2
        try clear c3
        try clear p3
        try clear q3
        try clear hx3
        try clear c4
        try clear c4b0
        try clear c4b1
        try clear c7
        try clear c7b0
        try clear c8
        try clear c8b0
        try clear c9
        try clear c9b0
        try clear c11
        try clear c11b0
        try clear c15
        try clear c15b0
        try clear c15b1
        try clear c16
        try clear c19
        try clear c19b0
        try clear c20
        try clear c20b0
        try clear c20b1
        try clear hcz5_0
        try clear hcz5_1
        try clear hfz5_0
        try clear hfz5_1
        try clear hx363_0
        try clear p2
        try clear p3
        try clear p363
        try clear q3
        try clear q363
        obtain ⟨kq, x1001_9, HA, HJ9, HO_1000, BK0, HK, HB⟩ := hcut
        cases kq with
        | zero => exact absurd HA.out (by simp [pack_Box_Get.j2])
        | succ kj9 =>
         have H := HA.out
         clear HA
         simp only [pack_Box_Get.j2] at H
         obtain ⟨ji23, hji23⟩ : ∃ j_ : Int, (wrap64 (6 * x25_1)) = j_ := ⟨_, rfl⟩
         replace H : (if 0 ≤ (ji23) then (if (rd l0_0 x25_1) ≥ 64 then (pack_Box_Get.l0 kj9 a1 a2 (Go.bits .or .u64 x7_1 (shl .u64 (IntKind.u64.wrap (Int.tmod (rd l0_0 x25_1) 64)) (ji23))) (l0_0.length : Int) (wrap64 (x25_1 + 1)) l0_0 x1001_9) else (if (Go.bits .xor .i64 (wrap64 ((Go.bits .or .u64 x7_1 (shl .u64 (IntKind.u64.wrap (Int.tmod (rd l0_0 x25_1) 64)) (ji23))) / 2)) (wrap64 (-(wrap64 (Go.bits .and .u64 (Go.bits .or .u64 x7_1 (shl .u64 (IntKind.u64.wrap (Int.tmod (rd l0_0 x25_1) 64)) (ji23))) 1))))) < a1 then ((pack_Box_fail.f l0_0 x1001_9 1).bind fun bt376 => (some (0, bt376.1, bt376.2))) else (if (Go.bits .xor .i64 (wrap64 ((Go.bits .or .u64 x7_1 (shl .u64 (IntKind.u64.wrap (Int.tmod (rd l0_0 x25_1) 64)) (ji23))) / 2)) (wrap64 (-(wrap64 (Go.bits .and .u64 (Go.bits .or .u64 x7_1 (shl .u64 (IntKind.u64.wrap (Int.tmod (rd l0_0 x25_1) 64)) (ji23))) 1))))) > a2 then ((pack_Box_fail.f l0_0 x1001_9 1).bind fun bt380 => (some (0, bt380.1, bt380.2))) else (if 0 ≤ (wrap64 (x25_1 + 1)) then (if (wrap64 (x25_1 + 1)) ≤ (l0_0.length : Int) then (some (Go.bits .xor .i64 (wrap64 ((Go.bits .or .u64 x7_1 (shl .u64 (IntKind.u64.wrap (Int.tmod (rd l0_0 x25_1) 64)) (ji23))) / 2)) (wrap64 (-(wrap64 (Go.bits .and .u64 (Go.bits .or .u64 x7_1 (shl .u64 (IntKind.u64.wrap (Int.tmod (rd l0_0 x25_1) 64)) (ji23))) 1)))), (l0_0.drop ((wrap64 (x25_1 + 1)) : Int).toNat), x1001_9)) else (none)) else (none))))) else (none)) = some (r1, r2, r3) := by first | (rw [hji23] at H; try exact H) | (simp only [hji23] at H ⊢; exact H)
         have hji23w : (IntKind.i64.wrap (6 * x25_1)) = ji23 := (i64_w _).trans hji23
         by_cases c24 : 0 ≤ (ji23)
         ·rw [if_pos c24] at H
          have c24b0 := eq_true c24
          have c24b1 : decide (0 ≤ (ji23)) = true := decide_eq_true c24
          clear c24
          obtain ⟨ji25, hji25⟩ : ∃ j_ : Int, (shl .u64 (IntKind.u64.wrap (Int.tmod (rd l0_0 x25_1) 64)) (ji23)) = j_ := ⟨_, rfl⟩
          replace H : (if (rd l0_0 x25_1) ≥ 64 then (pack_Box_Get.l0 kj9 a1 a2 (Go.bits .or .u64 x7_1 (ji25)) (l0_0.length : Int) (wrap64 (x25_1 + 1)) l0_0 x1001_9) else (if (Go.bits .xor .i64 (wrap64 ((Go.bits .or .u64 x7_1 (ji25)) / 2)) (wrap64 (-(wrap64 (Go.bits .and .u64 (Go.bits .or .u64 x7_1 (ji25)) 1))))) < a1 then ((pack_Box_fail.f l0_0 x1001_9 1).bind fun bt376 => (some (0, bt376.1, bt376.2))) else (if (Go.bits .xor .i64 (wrap64 ((Go.bits .or .u64 x7_1 (ji25)) / 2)) (wrap64 (-(wrap64 (Go.bits .and .u64 (Go.bits .or .u64 x7_1 (ji25)) 1))))) > a2 then ((pack_Box_fail.f l0_0 x1001_9 1).bind fun bt380 => (some (0, bt380.1, bt380.2))) else (if 0 ≤ (wrap64 (x25_1 + 1)) then (if (wrap64 (x25_1 + 1)) ≤ (l0_0.length : Int) then (some (Go.bits .xor .i64 (wrap64 ((Go.bits .or .u64 x7_1 (ji25)) / 2)) (wrap64 (-(wrap64 (Go.bits .and .u64 (Go.bits .or .u64 x7_1 (ji25)) 1)))), (l0_0.drop ((wrap64 (x25_1 + 1)) : Int).toNat), x1001_9)) else (none)) else (none))))) = some (r1, r2, r3) := by first | (rw [hji25] at H; try exact H) | (simp only [hji25] at H ⊢; exact H)
          have hji25_ : (IntKind.u64.wrap ((IntKind.u64.wrap (Int.tmod (rd l0_0 x25_1) 64)) * 2 ^ min (ji23).toNat 64)) = ji25 := hji25
          have hji25z : (ji23) ≤ 64 → (IntKind.u64.wrap ((IntKind.u64.wrap (Int.tmod (rd l0_0 x25_1) 64)) * 2 ^ (ji23).toNat)) = ji25 := shl_small hji25
          by_cases c26 : (rd l0_0 x25_1) ≥ 64
          ·rw [if_pos c26] at H
           have c26b0 : decide (64 ≤ (rd l0_0 x25_1)) = true := decide_eq_true c26
           clear c26
           have H' := Aside0.mk H
           clear H
           go_wp2
           go_roundg kj9
           case measure => have := HK1.out; have := HJ9.out; omega
           case rel => exact ⟨(Go.bits .or .u64 x7_1 (ji25)), (wrap64 (x25_1 + 1)), (x1001_9), (by first | rfl | (simp; done) | (simp only [← hji25] <;> (first | rfl | simp)) | (simp [*]; done)), (by first | rfl | (simp; done) | (simp [*]; done)), H', ⟨by have := HK1.out; have := HJ9.out; omega⟩, ⟨by (with_reducible repeat (first | apply Kd.Q_alloc | apply Kd.Q_drewN | apply Kd.Q_drew)); exact HO_1000.out⟩, ⟨by (with_reducible repeat (first | refine kN ?_ _ | refine kD ?_ | refine kA ?_ _)); exact BK0.out⟩, ⟨by repeat (first | (with_reducible first | exact HK.out | apply Kept.alloc | apply Kept.drewN | apply Kept.drew | refine Kept.setCell ?_ (.inl (.inr rfl)) _ | refine Kept.setCell ?_ (.inr GW0.out) _) | exact HK.out)⟩, ⟨by repeat (first | (with_reducible first | exact HB.out | apply kL | apply kM | apply kE | refine kS ?_ GE0.out) | exact HB.out)⟩⟩
          ·rw [if_neg c26] at H
           have c26b0 : decide (64 ≤ (rd l0_0 x25_1)) = false := decide_eq_false c26
           clear c26
           by_cases c27 : (Go.bits .xor .i64 (wrap64 ((Go.bits .or .u64 x7_1 (ji25)) / 2)) (wrap64 (-(wrap64 (Go.bits .and .u64 (Go.bits .or .u64 x7_1 (ji25)) 1))))) < a1
           ·rw [if_pos c27] at H
            have c27b0 : decide ((Go.bits .xor .i64 (wrap64 ((Go.bits .or .u64 x7_1 (ji25)) / 2)) (wrap64 (-(wrap64 (Go.bits .and .u64 (Go.bits .or .u64 x7_1 (ji25)) 1))))) < a1) = true := decide_eq_true c27
            clear c27
            replace H := Option.bind_eq_some_iff.mp H
            obtain ⟨⟨t376, t379⟩, A280, H⟩ := H
            replace H : (some (0, t376, t379)) = some (r1, r2, r3) := H
            have A28 := Aside0.mk A280
            clear A280
            simp only [Option.some.injEq, Prod.mk.injEq] at H
            obtain ⟨rfl, rfl, rfl⟩ := H
            go_wp2_with (first | ((with_reducible refine gate_callee (f := 37) rfl ?_); refine goesL_ (some 74) rfl rfl Try.func37 (by kernel_rfl) rfl #[.pointer (some ⟨gx0, 0, none⟩), .int .i64 1] rfl (by (try simp only [List.map_toArray, List.map_cons, List.map_nil]); first | done | rfl | (simp only [List.length_drop, List.length_take]; rfl)) ?_; (with_reducible refine (pack_Box_fail.calls gx0 (fun k_ => some k_ = (.slice (some ad363) l0_0.length co6 : Value).ownBlock) (.slice (some ad363) l0_0.length co6) l0_0 x1001_9 1 t376 t379 w0 _ ?side1 ?side2 ?side3 ?side4 A28.out).mono ?_); (case side1 => repeat (first | (with_reducible first | exact HB.out | apply kL | apply kM | apply kE | refine kS ?_ GE0.out) | exact HB.out)); (case side2 => exact (by (with_reducible repeat (first | refine kN ?_ _ | refine kD ?_ | refine kA ?_ _)); exact BK0.out)); (case side3 => exact GE0.out); (case side4 => exact Kd.Q_tight rfl HO_1000.out); rintro e w29 ⟨v377, rfl, ho0, hi, hb, hkp⟩; refine ⟨_, rfl, ?_⟩; have n0_ := Aside0.mk (hi); have n1_ := Aside0.mk (Kd.Q_mono (ok' := fun k_ => (P0_0_ k_ ∨ w.heap.size ≤ k_)) ho0 (fun k_ hk_ => Or.elim hk_ (fun hs_ => (HO_1000.out.1 k_ (hs_).symm)) (fun hn_ => (.inr (Nat.le_trans (by first | exact HK.out.1 | exact (show Kept w _ (fun k_ => (P0_0_ k_) ∨ k_ = gx0) from by repeat (first | (with_reducible first | exact HK.out | apply Kept.alloc | apply Kept.drewN | apply Kept.drew | refine Kept.setCell ?_ (.inl (.inr rfl)) _ | refine Kept.setCell ?_ (.inr GW0.out) _) | exact HK.out)).1) hn_))))); have n2_ := Aside0.mk (Kept.then_ (S := (fun k_ => (P0_0_ k_) ∨ k_ = gx0)) (by repeat (first | (with_reducible first | exact HK.out | apply Kept.alloc | apply Kept.drewN | apply Kept.drew | refine Kept.setCell ?_ (.inl (.inr rfl)) _ | refine Kept.setCell ?_ (.inr GW0.out) _) | exact HK.out)) hkp (fun k_ hs_ => Or.elim hs_ (fun hs_ => (fun e_ => Or.imp_left Or.inl ((HO_1000.out.1 k_ e_.symm))) hs_) (fun e_ => .inl (.inr e_)))); have n3_ := Aside0.mk (hb); clear BK0; clear HK; clear HB; clear HO_1000; have BK0 := n0_; have HO378 := n1_; have HK := n2_; have HB := n3_; clear n0_ n1_ n2_ n3_; (try clear hb); (try clear hkp); (try clear hi); (try clear ho0)))
            go_ret
            exact ⟨(v377), by first | rfl | (simp [errW_none, errW_some] <;> rfl) | (simp only [← hji23, ← hji25]; first | rfl | (simp [errW_none, errW_some] <;> rfl)) | (simp [*, errW_none, errW_some] <;> rfl), by (with_reducible repeat (first | apply Kd.Q_alloc | apply Kd.Q_drewN | apply Kd.Q_drew)); exact HO378.out, by (with_reducible repeat (first | refine kN ?_ _ | refine kD ?_ | refine kA ?_ _)); exact BK0.out, by repeat (first | (with_reducible first | exact HB.out | apply kL | apply kM | apply kE | refine kS ?_ GE0.out) | exact HB.out), by repeat (first | (with_reducible first | exact HK.out | apply Kept.alloc | apply Kept.drewN | apply Kept.drew | refine Kept.setCell ?_ (.inl (.inr rfl)) _ | refine Kept.setCell ?_ (.inr GW0.out) _) | exact HK.out)⟩
           ·rw [if_neg c27] at H
            have c27b0 : decide ((Go.bits .xor .i64 (wrap64 ((Go.bits .or .u64 x7_1 (ji25)) / 2)) (wrap64 (-(wrap64 (Go.bits .and .u64 (Go.bits .or .u64 x7_1 (ji25)) 1))))) < a1) = false := decide_eq_false c27
            clear c27
            by_cases c30 : (Go.bits .xor .i64 (wrap64 ((Go.bits .or .u64 x7_1 (ji25)) / 2)) (wrap64 (-(wrap64 (Go.bits .and .u64 (Go.bits .or .u64 x7_1 (ji25)) 1))))) > a2
            ·rw [if_pos c30] at H
             have c30b0 : decide (a2 < (Go.bits .xor .i64 (wrap64 ((Go.bits .or .u64 x7_1 (ji25)) / 2)) (wrap64 (-(wrap64 (Go.bits .and .u64 (Go.bits .or .u64 x7_1 (ji25)) 1)))))) = true := decide_eq_true c30
             clear c30
             replace H := Option.bind_eq_some_iff.mp H
             obtain ⟨⟨t380, t383⟩, A310, H⟩ := H
             replace H : (some (0, t380, t383)) = some (r1, r2, r3) := H
             have A31 := Aside0.mk A310
             clear A310
             simp only [Option.some.injEq, Prod.mk.injEq] at H
             obtain ⟨rfl, rfl, rfl⟩ := H
             go_wp2_with (first | ((with_reducible refine gate_callee (f := 37) rfl ?_); refine goesL_ (some 74) rfl rfl Try.func37 (by kernel_rfl) rfl #[.pointer (some ⟨gx0, 0, none⟩), .int .i64 1] rfl (by (try simp only [List.map_toArray, List.map_cons, List.map_nil]); first | done | rfl | (simp only [List.length_drop, List.length_take]; rfl)) ?_; (with_reducible refine (pack_Box_fail.calls gx0 (fun k_ => some k_ = (.slice (some ad363) l0_0.length co6 : Value).ownBlock) (.slice (some ad363) l0_0.length co6) l0_0 x1001_9 1 t380 t383 w0 _ ?side1 ?side2 ?side3 ?side4 A31.out).mono ?_); (case side1 => repeat (first | (with_reducible first | exact HB.out | apply kL | apply kM | apply kE | refine kS ?_ GE0.out) | exact HB.out)); (case side2 => exact (by (with_reducible repeat (first | refine kN ?_ _ | refine kD ?_ | refine kA ?_ _)); exact BK0.out)); (case side3 => exact GE0.out); (case side4 => exact Kd.Q_tight rfl HO_1000.out); rintro e w32 ⟨v381, rfl, ho0, hi, hb, hkp⟩; refine ⟨_, rfl, ?_⟩; have n0_ := Aside0.mk (hi); have n1_ := Aside0.mk (Kd.Q_mono (ok' := fun k_ => (P0_0_ k_ ∨ w.heap.size ≤ k_)) ho0 (fun k_ hk_ => Or.elim hk_ (fun hs_ => (HO_1000.out.1 k_ (hs_).symm)) (fun hn_ => (.inr (Nat.le_trans (by first | exact HK.out.1 | exact (show Kept w _ (fun k_ => (P0_0_ k_) ∨ k_ = gx0) from by repeat (first | (with_reducible first | exact HK.out | apply Kept.alloc | apply Kept.drewN | apply Kept.drew | refine Kept.setCell ?_ (.inl (.inr rfl)) _ | refine Kept.setCell ?_ (.inr GW0.out) _) | exact HK.out)).1) hn_))))); have n2_ := Aside0.mk (Kept.then_ (S := (fun k_ => (P0_0_ k_) ∨ k_ = gx0)) (by repeat (first | (with_reducible first | exact HK.out | apply Kept.alloc | apply Kept.drewN | apply Kept.drew | refine Kept.setCell ?_ (.inl (.inr rfl)) _ | refine Kept.setCell ?_ (.inr GW0.out) _) | exact HK.out)) hkp (fun k_ hs_ => Or.elim hs_ (fun hs_ => (fun e_ => Or.imp_left Or.inl ((HO_1000.out.1 k_ e_.symm))) hs_) (fun e_ => .inl (.inr e_)))); have n3_ := Aside0.mk (hb); clear BK0; clear HK; clear HB; clear HO_1000; have BK0 := n0_; have HO382 := n1_; have HK := n2_; have HB := n3_; clear n0_ n1_ n2_ n3_; (try clear hb); (try clear hkp); (try clear hi); (try clear ho0)))
             go_ret
             exact ⟨(v381), by first | rfl | (simp [errW_none, errW_some] <;> rfl) | (simp only [← hji23, ← hji25]; first | rfl | (simp [errW_none, errW_some] <;> rfl)) | (simp [*, errW_none, errW_some] <;> rfl), by (with_reducible repeat (first | apply Kd.Q_alloc | apply Kd.Q_drewN | apply Kd.Q_drew)); exact HO382.out, by (with_reducible repeat (first | refine kN ?_ _ | refine kD ?_ | refine kA ?_ _)); exact BK0.out, by repeat (first | (with_reducible first | exact HB.out | apply kL | apply kM | apply kE | refine kS ?_ GE0.out) | exact HB.out), by repeat (first | (with_reducible first | exact HK.out | apply Kept.alloc | apply Kept.drewN | apply Kept.drew | refine Kept.setCell ?_ (.inl (.inr rfl)) _ | refine Kept.setCell ?_ (.inr GW0.out) _) | exact HK.out)⟩
            ·rw [if_neg c30] at H
             have c30b0 : decide (a2 < (Go.bits .xor .i64 (wrap64 ((Go.bits .or .u64 x7_1 (ji25)) / 2)) (wrap64 (-(wrap64 (Go.bits .and .u64 (Go.bits .or .u64 x7_1 (ji25)) 1)))))) = false := decide_eq_false c30
             clear c30
             obtain ⟨ji33, hji33⟩ : ∃ j_ : Int, (wrap64 (x25_1 + 1)) = j_ := ⟨_, rfl⟩
             replace H : (if 0 ≤ (ji33) then (if (ji33) ≤ (l0_0.length : Int) then (some (Go.bits .xor .i64 (wrap64 ((Go.bits .or .u64 x7_1 (ji25)) / 2)) (wrap64 (-(wrap64 (Go.bits .and .u64 (Go.bits .or .u64 x7_1 (ji25)) 1)))), (l0_0.drop ((ji33) : Int).toNat), x1001_9)) else (none)) else (none)) = some (r1, r2, r3) := by first | (rw [hji33] at H; try exact H) | (simp only [hji33] at H ⊢; exact H)
             have hji33w : (IntKind.i64.wrap (x25_1 + 1)) = ji33 := (i64_w _).trans hji33
             by_cases c34 : 0 ≤ (ji33)
             ·rw [if_pos c34] at H
              have c34b0 := eq_true c34
              have c34b1 : decide (0 ≤ (ji33)) = true := decide_eq_true c34
              clear c34
              by_cases c35 : (ji33) ≤ (l0_0.length : Int)
              ·rw [if_pos c35] at H
               have c35b0 := eq_true c35
               have c35b1 : decide ((ji33) ≤ (l0_0.length : Int)) = true := decide_eq_true c35
               clear c35
               obtain ⟨y384, hy384⟩ : ∃ y_ : List Int, y_ = (l0_0.drop ((ji33) : Int).toNat) := ⟨_, rfl⟩
               replace H : (some (Go.bits .xor .i64 (wrap64 ((Go.bits .or .u64 x7_1 (ji25)) / 2)) (wrap64 (-(wrap64 (Go.bits .and .u64 (Go.bits .or .u64 x7_1 (ji25)) 1)))), y384, x1001_9)) = some (r1, r2, r3) := by first | (rw [hy384]; with_reducible exact H) | (have H2_ := (Option.bind_some _ _).symm.trans H; rw [hy384]; with_reducible exact H2_) | (have H2_ := (Option.bind_some _ _).symm.trans H; with_reducible exact H2_) | with_reducible exact H | (rw [hy384]; exact H) | exact H
               have Ny384 := Aside0.mk hy384
               clear hy384
               simp only [Option.some.injEq, Prod.mk.injEq] at H
               obtain ⟨rfl, rfl, rfl⟩ := H
               have hcz36_0 : wc.cell? ⟨gx0, 0, none⟩ = some (.slice (some ad363) l0_0.length co6) := (kC BK0.out 0).trans rfl
               have hcz36_1 : wc.cell? ⟨gx0, 1, none⟩ = some (.int .i64 x1001_9) := (kC BK0.out 1).trans rfl
               have hfz36_0 := kF BK0.out 0
               have hfz36_1 := kF BK0.out 1
               have q37 : ((ji33) : Int) ≤ ((l0_0.length : Int) : Int) := of_decide_eq_true (by first | (with_reducible assumption) | assumption)
               obtain ⟨i037, hi037, _, hsz37, _⟩ := info_parts info5
               have hcut37 := cut_from (P := Try.prog) 34 5 .i64 Try.underlying34 hi037 1 hsz37 (some ad363) l0_0.length co6 (ji33) (of_decide_eq_true (by first | (with_reducible assumption) | assumption)) q37
               have hr37 := Kd.Q_drop (k := ((ji33) : Int).toNat) HO_1000.out (by omega)
               obtain ⟨A37, hA37⟩ : ∃ A1, A1 = (if co6 = ((ji33) : Int).toNat then (some ad363) else ((some ad363) : Option Addr).map (·.add (((ji33) : Int).toNat * 1))) := ⟨_, rfl⟩
               obtain ⟨c37, hc37⟩ : ∃ c1, c1 = co6 - ((ji33) : Int).toNat := ⟨_, rfl⟩
               have hy37 : y384.length = l0_0.length - ((ji33) : Int).toNat := (by rw [Ny384.out, List.length_drop])
               rw [← Ny384.out] at hr37
               rw [← hy37, ← hA37, ← hc37] at hcut37
               replace hr37 : Kd.Q (Kd.int .u8) 5 wc w0.heap.size (fun k_ => (P0_0_ k_ ∨ w.heap.size ≤ k_)) (.slice A37 y384.length c37) y384 := (by rw [hA37, hc37, hy37]; exact hr37)
               have HE37 : Aside0 ((Value.slice A37 y384.length c37).ownBlock = (.slice (some ad363) l0_0.length co6 : Value).ownBlock) := ⟨by rw [hA37]; split <;> (cases ((some ad363) : Option Addr) <;> first | rfl | simp [Value.ownBlock, add_block])⟩
               clear hy37 hi037 hsz37 HO_1000 hA37 hc37
               have HO386 := Aside0.mk hr37
               clear hr37
               replace q37 := eq_true q37
               go_wp2
               go_ret
               exact ⟨(.slice A37 y384.length c37), by first | rfl | (simp [errW_none, errW_some] <;> rfl) | (simp only [← hji23, ← hji25, ← hji33]; first | rfl | (simp [errW_none, errW_some] <;> rfl)) | (simp [*, errW_none, errW_some] <;> rfl), by (with_reducible repeat (first | apply Kd.Q_alloc | apply Kd.Q_drewN | apply Kd.Q_drew)); exact Kd.Q_mono (Kd.Q_far (p := ⟨gx0, 0, none⟩) (Kd.Q_types HO386.out BK0.out (by decide)) (fun _ hk => hk.2) (.slice A37 y384.length c37)) (fun _ hk => hk.1), by (with_reducible repeat (first | refine kN ?_ _ | refine kD ?_ | refine kA ?_ _)); refine kP (cs := #[.slice (some ad363) l0_0.length co6, .int .i64 x1001_9]) ?_ 0 _ rfl; (with_reducible repeat (first | refine kN ?_ _ | refine kD ?_ | refine kA ?_ _)); exact BK0.out, by repeat (first | (with_reducible first | exact HB.out | apply kL | apply kM | apply kE | refine kS ?_ GE0.out) | exact HB.out), by repeat (first | (with_reducible first | exact HK.out | apply Kept.alloc | apply Kept.drewN | apply Kept.drew | refine Kept.setCell ?_ (.inl (.inr rfl)) _ | refine Kept.setCell ?_ (.inr GW0.out) _) | exact HK.out)⟩
              ·rw [if_neg c35] at H
               exact absurd H (by simp)
             ·rw [if_neg c34] at H
              exact absurd H (by simp)
         ·rw [if_neg c24] at H
          exact absurd H (by simp)
      ·rw [if_neg c9] at H
       exact absurd H (by simp)
     ·rw [if_neg c8] at H
      exact absurd H (by simp)
    ·rw [if_neg c7] at H
     have c7b0 : decide (x25_1 < (l0_0.length : Int)) = false := decide_eq_false c7
     clear c7
     replace H := Option.bind_eq_some_iff.mp H
     obtain ⟨⟨t359, t362⟩, A380, H⟩ := H
     replace H : (some (0, t359, t362)) = some (r1, r2, r3) := H
     have A38 := Aside0.mk A380
     clear A380
     simp only [Option.some.injEq, Prod.mk.injEq] at H
     obtain ⟨rfl, rfl, rfl⟩ := H
     go_wp2_with (first | ((with_reducible refine gate_callee (f := 37) rfl ?_); refine goesL_ (some 88) rfl rfl Try.func37 (by kernel_rfl) rfl #[.pointer (some ⟨gx0, 0, none⟩), .int .i64 5] rfl (by (try simp only [List.map_toArray, List.map_cons, List.map_nil]); first | done | rfl | (simp only [List.length_drop, List.length_take]; rfl)) ?_; (with_reducible refine (pack_Box_fail.calls gx0 (fun k_ => some k_ = (.slice Ao6 l0_0.length co6 : Value).ownBlock) (.slice Ao6 l0_0.length co6) l0_0 x1001_1 5 t359 t362 w0 _ ?side1 ?side2 ?side3 ?side4 A38.out).mono ?_); (case side1 => repeat (first | (with_reducible first | exact HB.out | apply kL | apply kM | apply kE | refine kS ?_ GE0.out) | exact HB.out)); (case side2 => exact (by (with_reducible repeat (first | refine kN ?_ _ | refine kD ?_ | refine kA ?_ _)); exact BK0.out)); (case side3 => exact GE0.out); (case side4 => exact Kd.Q_tight rfl HO_1000.out); rintro e w39 ⟨v360, rfl, ho0, hi, hb, hkp⟩; refine ⟨_, rfl, ?_⟩; have n0_ := Aside0.mk (hi); have n1_ := Aside0.mk (Kd.Q_mono (ok' := fun k_ => (P0_0_ k_ ∨ w.heap.size ≤ k_)) ho0 (fun k_ hk_ => Or.elim hk_ (fun hs_ => (HO_1000.out.1 k_ (hs_).symm)) (fun hn_ => (.inr (Nat.le_trans (by first | exact HK.out.1 | exact (show Kept w _ (fun k_ => (P0_0_ k_) ∨ k_ = gx0) from by repeat (first | (with_reducible first | exact HK.out | apply Kept.alloc | apply Kept.drewN | apply Kept.drew | refine Kept.setCell ?_ (.inl (.inr rfl)) _ | refine Kept.setCell ?_ (.inr GW0.out) _) | exact HK.out)).1) hn_))))); have n2_ := Aside0.mk (Kept.then_ (S := (fun k_ => (P0_0_ k_) ∨ k_ = gx0)) (by repeat (first | (with_reducible first | exact HK.out | apply Kept.alloc | apply Kept.drewN | apply Kept.drew | refine Kept.setCell ?_ (.inl (.inr rfl)) _ | refine Kept.setCell ?_ (.inr GW0.out) _) | exact HK.out)) hkp (fun k_ hs_ => Or.elim hs_ (fun hs_ => (fun e_ => Or.imp_left Or.inl ((HO_1000.out.1 k_ e_.symm))) hs_) (fun e_ => .inl (.inr e_)))); have n3_ := Aside0.mk (hb); clear BK0; clear HK; clear HB; clear HO_1000; have BK0 := n0_; have HO361 := n1_; have HK := n2_; have HB := n3_; clear n0_ n1_ n2_ n3_; (try clear hb); (try clear hkp); (try clear hi); (try clear ho0)))
     go_ret
     exact ⟨(v360), by first | rfl | (simp [errW_none, errW_some] <;> rfl) | (simp [*, errW_none, errW_some] <;> rfl), by (with_reducible repeat (first | apply Kd.Q_alloc | apply Kd.Q_drewN | apply Kd.Q_drew)); exact HO361.out, by (with_reducible repeat (first | refine kN ?_ _ | refine kD ?_ | refine kA ?_ _)); exact BK0.out, by repeat (first | (with_reducible first | exact HB.out | apply kL | apply kM | apply kE | refine kS ?_ GE0.out) | exact HB.out), by repeat (first | (with_reducible first | exact HK.out | apply Kept.alloc | apply Kept.drewN | apply Kept.drew | refine Kept.setCell ?_ (.inl (.inr rfl)) _ | refine Kept.setCell ?_ (.inr GW0.out) _) | exact HK.out)⟩
 ·rw [if_neg c4] at H
  have c4b0 : (a0_1 == 0) = false := beq_eq_false_iff_ne.mpr c4
  have c4b1 : (a0_1 != 0) = true := bne_iff_ne.mpr c4
  simp only [Option.some.injEq, Prod.mk.injEq] at H
  obtain ⟨rfl, rfl, rfl⟩ := H
  have hcz40_0 : w.cell? ⟨gx0, 0, none⟩ = some (u9000_) := (kC BK0.out 0).trans rfl
  have hcz40_1 : w.cell? ⟨gx0, 1, none⟩ = some (.int .i64 a0_1) := (kC BK0.out 1).trans rfl
  have hfz40_0 := kF BK0.out 0
  have hfz40_1 := kF BK0.out 1
  go_enter Try.func32, Try.ntmps32
  go_wp2
  go_ret
  exact ⟨(u9000_), by first | rfl | (simp [errW_none, errW_some] <;> rfl) | (simp [*, errW_none, errW_some] <;> rfl), by (with_reducible repeat (first | apply Kd.Q_alloc | apply Kd.Q_drewN | apply Kd.Q_drew)); exact HO0_0.out, by (with_reducible repeat (first | refine kN ?_ _ | refine kD ?_ | refine kA ?_ _)); exact BK0.out, by repeat (first | (with_reducible first | exact HB.out | apply kL | apply kM | apply kE | refine kS ?_ GE0.out) | exact HB.out), by repeat (first | (with_reducible first | exact HK.out | apply Kept.alloc | apply Kept.drewN | apply Kept.drew | refine Kept.setCell ?_ (.inl (.inr rfl)) _ | refine Kept.setCell ?_ (.inr GW0.out) _) | exact HK.out)⟩

end Go.Proofs.Ytlihgjonmliodaa.PA
