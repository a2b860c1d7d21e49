-- printed by this workplace: wip/patchprint.py over the kit's print
import Derived.Test.YtlihgjonmliodaaPAx0
namespace Go.Proofs.Ytlihgjonmliodaa.PA
open Go.RowKit Go.Proofs.YtlihgjonmliodaaW.PrintWords Go.Proofs.YtlihgjonmliodaaW.PrintLast Go.Proofs.YtlihgjonmliodaaW.PrintMore
attribute [local go_sem] max2_int min2_int max_two min_two max_three min_three max_four min_four   -- for this text's walks alone
set_option linter.unusedVariables false
set_option linter.unusedSimpArgs false

/-! ### pack_Box_Put: function 30 -/
mutual
def pack_Box_Put.l0 : Nat → List Int → Int → Int → List Int → Int → Option (List Int × Int)
 | 0, _, _, _, _, _ => none
 | k + 1, x10, x11, x12, x1000, x1001 => if x12 < x11 then (if 0 ≤ x12 then (if x12 < (x10.length : Int) then (pack_Box_Put.l1 k (Go.bits .xor .u64 (IntKind.u64.wrap ((IntKind.u64.wrap (rd x10 x12)) * 2)) (IntKind.u64.wrap ((rd x10 x12) / 9223372036854775808))) x10 x11 x12 x1000 x1001) else (none)) else (none)) else (some (x1000, x1001))
def pack_Box_Put.l1 : Nat → Int → List Int → Int → Int → List Int → Int → Option (List Int × Int)
 | 0, _, _, _, _, _, _ => none
 | k + 1, x7, x10, x11, x12, x1000, x1001 => if x7 ≥ 64 then (if x1000.length < 140737488355328 then (pack_Box_Put.l1 k (IntKind.u64.wrap (Int.tdiv x7 64)) x10 x11 x12 (x1000 ++ [Go.bits .or .u8 ((Int.tmod x7 64) % 256) 64]) x1001) else (none)) else (if x1000.length < 140737488355328 then (pack_Box_Put.l0 k x10 x11 (wrap64 (x12 + 1)) (x1000 ++ [(x7) % 256]) x1001) else (none))
end
def pack_Box_Put.f (k : Nat) (l0_0 : List Int) (a0_1 : Int) (l1 : List Int) : Option (List Int × Int) := pack_Box_Put.l0 k l1 (l1.length : Int) 0 l0_0 a0_1
theorem pack_Box_Put.mono_l : ∀ k, (∀ y0 y1 y2 y3 y4, LeO (pack_Box_Put.l0 k y0 y1 y2 y3 y4) (pack_Box_Put.l0 (k + 1) y0 y1 y2 y3 y4)) ∧ (∀ y0 y1 y2 y3 y4 y5, LeO (pack_Box_Put.l1 k y0 y1 y2 y3 y4 y5) (pack_Box_Put.l1 (k + 1) y0 y1 y2 y3 y4 y5))
 | 0 => ⟨fun _ _ _ _ _ r h => by simp [pack_Box_Put.l0] at h, fun _ _ _ _ _ _ r h => by simp [pack_Box_Put.l1] at h⟩
 | k + 1 => by
  obtain ⟨ih0, ih1⟩ := pack_Box_Put.mono_l k
  refine ⟨?_, ?_⟩
  ·intro y0 y1 y2 y3 y4
   unfold pack_Box_Put.l0
   repeat' first
   | (with_reducible exact ih0 _ _ _ _ _)
   | (with_reducible exact ih1 _ _ _ _ _ _)
   | (with_reducible exact LeO.refl _)
   | (with_reducible exact LeO.none _)
   | (with_reducible refine LeO.ite ?_ ?_)
   | (with_reducible refine LeO.bind ?_ (fun _ => ?_))
   | exact ih0 _ _ _ _ _
   | exact ih1 _ _ _ _ _ _
   | exact LeO.none _
   | refine LeO.ite ?_ ?_
   | refine LeO.bind ?_ (fun _ => ?_)
  ·intro y0 y1 y2 y3 y4 y5
   unfold pack_Box_Put.l1
   repeat' first
   | (with_reducible exact ih0 _ _ _ _ _)
   | (with_reducible exact ih1 _ _ _ _ _ _)
   | (with_reducible exact LeO.refl _)
   | (with_reducible exact LeO.none _)
   | (with_reducible refine LeO.ite ?_ ?_)
   | (with_reducible refine LeO.bind ?_ (fun _ => ?_))
   | exact ih0 _ _ _ _ _
   | exact ih1 _ _ _ _ _ _
   | exact LeO.none _
   | refine LeO.ite ?_ ?_
   | refine LeO.bind ?_ (fun _ => ?_)
theorem pack_Box_Put.mono : ∀ a0 a1 a2 k, LeO (pack_Box_Put.f k a0 a1 a2) (pack_Box_Put.f (k + 1) a0 a1 a2) := by
 intro a0 a1 a2 k
 obtain ⟨ih0, ih1⟩ := pack_Box_Put.mono_l k
 unfold pack_Box_Put.f
 repeat' first
   | (with_reducible exact ih0 _ _ _ _ _)
   | (with_reducible exact ih1 _ _ _ _ _ _)
   | (with_reducible exact LeO.refl _)
   | (with_reducible exact LeO.none _)
   | (with_reducible refine LeO.ite ?_ ?_)
   | (with_reducible refine LeO.bind ?_ (fun _ => ?_))
   | exact ih0 _ _ _ _ _
   | exact ih1 _ _ _ _ _ _
   | exact LeO.none _
   | refine LeO.ite ?_ ?_
   | refine LeO.bind ?_ (fun _ => ?_)
set_option maxHeartbeats 40000000 in
set_option maxRecDepth 100000 in
theorem pack_Box_Put.calls (k : Nat) (gx0 : Nat) (P0_0_ : Nat → Prop) (u9000_ : Value) (l0_0 : List Int) (a0_1 : Int) (A1 : Option Addr) (c1 : Nat) (l1 : List Int) (r1 : List Int) (r2 : Int) (w0 w : World) (hB : Below w0.heap.size w0 w) (hbx0 : w.heap[gx0]? = some (.cells #[u9000_, .int .i64 a0_1] 60 (0, 0))) (hge0 : w0.heap.size ≤ gx0) (ho0_0 : Kd.R (Kd.int .u8) 5 w w0.heap.size P0_0_ u9000_ l0_0) (hr1 : ∀ W_, Kept w W_ (fun k_ => (P0_0_ k_) ∨ k_ = gx0) → Kd.C (Kd.int .i64) W_ A1 l1.length l1) (hc1 : l1.length ≤ c1) (h : pack_Box_Put.f k l0_0 a0_1 l1 = some (r1, r2)) :
  Calls Try.prog 30 #[.pointer (some ⟨gx0, 0, none⟩), .slice A1 l1.length c1] w fun e w' => ∃ v0_ : Value, e = .returned (.pointer (some ⟨gx0, 0, none⟩)) ∧ Kd.R (Kd.int .u8) 5 w' w0.heap.size (fun k_ => (P0_0_ k_ ∨ w.heap.size ≤ k_)) v0_ r1 ∧ w'.heap[gx0]? = some (.cells #[v0_, .int .i64 r2] 60 (0, 0)) ∧ Below w0.heap.size w0 w' ∧ Kept w w' (fun k_ => (P0_0_ k_) ∨ k_ = gx0) := by
 have BK0 := Aside0.mk hbx0
 have GE0 := Aside0.mk hge0
 clear hbx0 hge0
 have HO0_0 := Aside0.mk (show Kd.R (Kd.int .u8) 5 w w0.heap.size (fun k_ => (P0_0_ k_ ∨ w.heap.size ≤ k_)) u9000_ l0_0 from Kd.R_mono ho0_0 (fun k_ hk => (.inl hk)))
 have HR1 := Aside0.mk hr1
 have HC1 := Aside0.mk hc1
 clear hr1 hc1
 have HK := Aside0.mk (Kept.refl w (fun k_ => (P0_0_ k_) ∨ k_ = gx0))
 have HW0 := Aside0.mk hB.size
 have HB := Aside0.mk hB
 clear hB
 have H : (pack_Box_Put.l0 k l1 (l1.length : Int) 0 l0_0 a0_1) = some (r1, r2) := h
 clear h
 have H' := Aside0.mk H
 clear H
 go_enter Try.func30, Try.ntmps30
 go_wp2
 go_loopg [12] k (fun kq v12 w' => ∃ (x12_1 : Int) (x1000_1 : List Int) (u1000 : Value), v12 = .int .i64 x12_1 ∧ Aside0 (pack_Box_Put.l0 kq l1 (l1.length : Int) x12_1 x1000_1 a0_1 = some (r1, r2)) ∧ Aside0 (kq ≤ k) ∧ Aside0 (Kd.R (Kd.int .u8) 5 w' w0.heap.size (fun k_ => (P0_0_ k_ ∨ w.heap.size ≤ k_)) u1000 x1000_1) ∧ Aside0 (w'.heap[gx0]? = some (.cells #[u1000, .int .i64 a0_1] 60 (0, 0))) ∧ Aside0 (Kept w w' (fun k_ => (P0_0_ k_) ∨ k_ = gx0)) ∧ Aside0 (Below w0.heap.size w0 w'))
 case atStart => exact ⟨(0), (l0_0), (u9000_), (by first | rfl | (simp; done) | (simp [*]; done)), H', ⟨Nat.le_refl _⟩, ⟨by (with_reducible repeat (first | apply Kd.R_alloc | apply Kd.R_drewN | apply Kd.R_drew)); exact HO0_0.out⟩, ⟨by (with_reducible repeat (first | refine kN ?_ _ | refine kD ?_ | refine kA ?_ _)); exact BK0.out⟩, ⟨by repeat (first | (with_reducible first | exact HK.out | apply Kept.alloc | apply Kept.drewN | apply Kept.drew | refine Kept.setCell ?_ (.inl (.inr rfl)) _ | refine Kept.setCell ?_ (.inr GW0.out) _) | exact HK.out)⟩, ⟨by repeat (first | (with_reducible first | exact HB.out | apply kL | apply kM | apply kE | refine kS ?_ GE0.out) | exact HB.out)⟩⟩
 case round =>
  clear H'
  try clear c1
  try clear p2
  obtain ⟨x12_1, x1000_1, u1000, rfl, HA, HK1, HO_1000, BK0, HK, HB⟩ := hrel
  cases gk with
  | zero => exact absurd HA.out (by simp [pack_Box_Put.l0])
  | succ k1 =>
   have H := HA.out
   clear HA
   simp only [pack_Box_Put.l0] at H
   by_cases c3 : x12_1 < (l1.length : Int)
   ·rw [if_pos c3] at H
    have c3b0 : decide (x12_1 < (l1.length : Int)) = true := decide_eq_true c3
    clear c3
    by_cases c4 : 0 ≤ x12_1
    ·rw [if_pos c4] at H
     have c4b0 : decide (0 ≤ x12_1) = true := decide_eq_true c4
     clear c4
     by_cases c5 : x12_1 < (l1.length : Int)
     ·rw [if_pos c5] at H
      have c5b0 : decide (x12_1 < (l1.length : Int)) = true := decide_eq_true c5
      clear c5
      have H' := Aside0.mk H
      clear H
      have p124 : 0 ≤ (x12_1 : Int) := of_decide_eq_true (by first | (with_reducible assumption) | assumption)
      have q124 : x12_1 < (l1.length : Int) := of_decide_eq_true (by first | (with_reducible assumption) | assumption)
      obtain ⟨ad124, e124, hx124_0⟩ := Kd.at_int (Kd.C_kept_now HR1.out HK.out) x12_1 p124 q124
      cases e124
      replace p124 := eq_true p124
      replace q124 := eq_true q124
      go_wp2
      go_loopg [7] k1 (fun kq v7 w' => ∃ (x7_2 : Int) (x1000_2 : List Int) (u1000 : Value), v7 = .int .u64 x7_2 ∧ Aside0 (pack_Box_Put.l1 kq x7_2 l1 (l1.length : Int) x12_1 x1000_2 a0_1 = some (r1, r2)) ∧ Aside0 (kq ≤ k1) ∧ Aside0 (Kd.R (Kd.int .u8) 5 w' w0.heap.size (fun k_ => (P0_0_ k_ ∨ w.heap.size ≤ k_)) u1000 x1000_2) ∧ Aside0 (w'.heap[gx0]? = some (.cells #[u1000, .int .i64 a0_1] 60 (0, 0))) ∧ Aside0 (Kept w w' (fun k_ => (P0_0_ k_) ∨ k_ = gx0)) ∧ Aside0 (Below w0.heap.size w0 w'))
      case atStart => exact ⟨(Go.bits .xor .u64 (IntKind.u64.wrap ((IntKind.u64.wrap (rd l1 x12_1)) * 2)) (IntKind.u64.wrap ((rd l1 x12_1) / 9223372036854775808))), (x1000_1), (u1000), (by first | rfl | (simp; done) | (simp [*]; done)), H', ⟨Nat.le_refl _⟩, ⟨by (with_reducible repeat (first | apply Kd.R_alloc | apply Kd.R_drewN | apply Kd.R_drew)); exact HO_1000.out⟩, ⟨by (with_reducible repeat (first | refine kN ?_ _ | refine kD ?_ | refine kA ?_ _)); exact BK0.out⟩, ⟨by repeat (first | (with_reducible first | exact HK.out | apply Kept.alloc | apply Kept.drewN | apply Kept.drew | refine Kept.setCell ?_ (.inl (.inr rfl)) _ | refine Kept.setCell ?_ (.inr GW0.out) _) | exact HK.out)⟩, ⟨by repeat (first | (with_reducible first | exact HB.out | apply kL | apply kM | apply kE | refine kS ?_ GE0.out) | exact HB.out)⟩⟩
      case round =>
       clear H'
       try clear c1
       try clear p1
       try clear q1
       try clear hx1
       try clear p2
       try clear c3
       try clear c3b0
       try clear c4
       try clear c4b0
       try clear c5
       try clear c5b0
       try clear hx124_0
       try clear p124
       try clear p2
       try clear q124
       obtain ⟨x7_2, x1000_2, u1000, rfl, HA, HK2, HO_1000, BK0, HK, HB⟩ := hrel
       cases gk with
       | zero => exact absurd HA.out (by simp [pack_Box_Put.l1])
       | succ k2 =>
        have H := HA.out
        clear HA
        simp only [pack_Box_Put.l1] at H
        by_cases c6 : x7_2 ≥ 64
        ·rw [if_pos c6] at H
         have c6b0 : decide (64 ≤ x7_2) = true := decide_eq_true c6
         clear c6
         by_cases c7 : x1000_2.length < 140737488355328
         ·rw [if_pos c7] at H
          have LMc7 := Aside0.mk c7
          clear c7
          obtain ⟨y125, hy125⟩ : ∃ y_ : List Int, y_ = (x1000_2 ++ [Go.bits .or .u8 ((Int.tmod x7_2 64) % 256) 64]) := ⟨_, rfl⟩
          replace H : (pack_Box_Put.l1 k2 (IntKind.u64.wrap (Int.tdiv x7_2 64)) l1 (l1.length : Int) x12_1 y125 a0_1) = some (r1, r2) := by first | (rw [hy125]; with_reducible exact H) | (have H2_ := (Option.bind_some _ _).symm.trans H; rw [hy125]; with_reducible exact H2_) | (have H2_ := (Option.bind_some _ _).symm.trans H; with_reducible exact H2_) | with_reducible exact H | (rw [hy125]; exact H) | exact H
          have Ny125 := Aside0.mk hy125
          clear hy125
          have H' := Aside0.mk H
          clear H
          have hcz8_0 : wr.cell? ⟨gx0, 0, none⟩ = some (u1000) := (kC BK0.out 0).trans rfl
          have hcz8_1 : wr.cell? ⟨gx0, 1, none⟩ = some (.int .i64 a0_1) := (kC BK0.out 1).trans rfl
          have hfz8_0 := kF BK0.out 0
          have hfz8_1 := kF BK0.out 1
          go_wp2_with (first | ((with_reducible refine gate_builtin (b := .append) (xs := #[.tmp 29, .tmp 34]) rfl ?_); at_builtin; refine Kd.R_append (Kd.int .u8) (w0 := w0) w0.heap.size rfl (.tmp 29) (.tmp 34) 34 5 (.int .u8 0) 1 rfl Try.underlying34 info5 rfl (by decide) (by omega) u1000 x1000_2 (Go.bits .or .u8 ((Int.tmod x7_2 64) % 256) 64) [.int .u8 (Go.bits .or .u8 ((Int.tmod x7_2 64) % 256) 64)] (fun k_ => (P0_0_ k_ ∨ w.heap.size ≤ k_)) (fun _ => False) rfl rfl ?aP (fun _ hk => hk.elim) ?aF ?aO ?aB ?aS ?aL ?_; (case aP => exact rfl); (case aB => exact (by repeat (first | (with_reducible first | exact HB.out | apply kL | apply kM | apply kE | refine kS ?_ GE0.out) | exact HB.out))); (case aF => exact (fun k_ hk => (.inr (Nat.le_trans (by first | exact HK.out.1 | exact (show Kept w _ (fun k_ => (P0_0_ k_) ∨ k_ = gx0) from by repeat (first | (with_reducible first | exact HK.out | apply Kept.alloc | apply Kept.drewN | apply Kept.drew | refine Kept.setCell ?_ (.inl (.inr rfl)) _ | refine Kept.setCell ?_ (.inr GW0.out) _) | exact HK.out)).1) hk)))); (case aO => exact (by (with_reducible repeat (first | apply Kd.R_alloc | apply Kd.R_drewN | apply Kd.R_drew)); exact HO_1000.out)); (case aS => exact (below_size (by repeat (first | (with_reducible first | exact HB.out | apply kL | apply kM | apply kE | refine kS ?_ GE0.out) | exact HB.out)))); (case aL => have := LMc7.out; omega); intro v126 w9 ho hb hg hat; rw [← Ny125.out] at ho; have n0_ := Aside0.mk (blk_grown (g := gx0) (o := .cells #[u1000, .int .i64 a0_1] 60 (0, 0)) (by (with_reducible repeat (first | refine kN ?_ _ | refine kD ?_ | refine kA ?_ _)); exact BK0.out) hg (Kd.R_ne HO_1000.out BK0.out (by decide))); have n1_ := Aside0.mk (hb); have n2_ := Aside0.mk (Kept.of_grown (S := (fun k_ => (P0_0_ k_) ∨ k_ = gx0)) hg (by repeat (first | (with_reducible first | exact HK.out | apply Kept.alloc | apply Kept.drewN | apply Kept.drew | refine Kept.setCell ?_ (.inl (.inr rfl)) _ | refine Kept.setCell ?_ (.inr GW0.out) _) | exact HK.out)) (fun k_ e_ => Or.imp_left Or.inl ((HO_1000.out.1 k_ e_)))); have n3_ := Aside0.mk (ho); clear BK0; clear HB; clear HK; clear HO_1000; have BK0 := n0_; have HB := n1_; have HK := n2_; have HO127 := n3_; clear n0_ n1_ n2_ n3_; clear ho hb hg hat; obtain ⟨Ao10, co10, eo10⟩ := Kd.R_slice HO127.out; subst eo10; have hcz11_0 : w9.cell? ⟨gx0, 0, none⟩ = some (u1000) := (kC BK0.out 0).trans rfl; have hcz11_1 : w9.cell? ⟨gx0, 1, none⟩ = some (.int .i64 a0_1) := (kC BK0.out 1).trans rfl; have hfz11_0 := kF BK0.out 0; have hfz11_1 := kF BK0.out 1))
          go_roundg k2
          case measure => have := HK1.out; have := HK2.out; omega
          case rel => exact ⟨(IntKind.u64.wrap (Int.tdiv x7_2 64)), (y125), (.slice Ao10 y125.length co10), (by first | rfl | (simp; done) | (simp [*]; done)), H', ⟨by have := HK1.out; have := HK2.out; omega⟩, ⟨by (with_reducible repeat (first | apply Kd.R_alloc | apply Kd.R_drewN | apply Kd.R_drew)); exact Kd.R_mono (Kd.R_far (p := ⟨gx0, 0, none⟩) (Kd.R_types HO127.out BK0.out (by decide)) (fun _ hk => hk.2) (.slice Ao10 y125.length co10)) (fun _ hk => hk.1)⟩, ⟨by (with_reducible repeat (first | refine kN ?_ _ | refine kD ?_ | refine kA ?_ _)); refine kP (cs := #[u1000, .int .i64 a0_1]) ?_ 0 _ rfl; (with_reducible repeat (first | refine kN ?_ _ | refine kD ?_ | refine kA ?_ _)); exact BK0.out⟩, ⟨by repeat (first | (with_reducible first | exact HK.out | apply Kept.alloc | apply Kept.drewN | apply Kept.drew | refine Kept.setCell ?_ (.inl (.inr rfl)) _ | refine Kept.setCell ?_ (.inr GW0.out) _) | exact HK.out)⟩, ⟨by repeat (first | (with_reducible first | exact HB.out | apply kL | apply kM | apply kE | refine kS ?_ GE0.out) | exact HB.out)⟩⟩
         ·rw [if_neg c7] at H
          exact absurd H (by simp)
        ·rw [if_neg c6] at H
         have c6b0 : decide (64 ≤ x7_2) = false := decide_eq_false c6
         clear c6
         by_cases c12 : x1000_2.length < 140737488355328
         ·rw [if_pos c12] at H
          have LMc12 := Aside0.mk c12
          clear c12
          obtain ⟨y128, hy128⟩ : ∃ y_ : List Int, y_ = (x1000_2 ++ [(x7_2) % 256]) := ⟨_, rfl⟩
          replace H : (pack_Box_Put.l0 k2 l1 (l1.length : Int) (wrap64 (x12_1 + 1)) y128 a0_1) = some (r1, r2) := by first | (rw [hy128]; with_reducible exact H) | (have H2_ := (Option.bind_some _ _).symm.trans H; rw [hy128]; with_reducible exact H2_) | (have H2_ := (Option.bind_some _ _).symm.trans H; with_reducible exact H2_) | with_reducible exact H | (rw [hy128]; exact H) | exact H
          have Ny128 := Aside0.mk hy128
          clear hy128
          have H' := Aside0.mk H
          clear H
          have hcz13_0 : wr.cell? ⟨gx0, 0, none⟩ = some (u1000) := (kC BK0.out 0).trans rfl
          have hcz13_1 : wr.cell? ⟨gx0, 1, none⟩ = some (.int .i64 a0_1) := (kC BK0.out 1).trans rfl
          have hfz13_0 := kF BK0.out 0
          have hfz13_1 := kF BK0.out 1
          go_wp2_with (first | ((with_reducible refine gate_builtin (b := .append) (xs := #[.tmp 44, .tmp 47]) rfl ?_); at_builtin; refine Kd.R_append (Kd.int .u8) (w0 := w0) w0.heap.size rfl (.tmp 44) (.tmp 47) 34 5 (.int .u8 0) 1 rfl Try.underlying34 info5 rfl (by decide) (by omega) u1000 x1000_2 ((x7_2) % 256) [.int .u8 ((x7_2) % 256)] (fun k_ => (P0_0_ k_ ∨ w.heap.size ≤ k_)) (fun _ => False) rfl rfl ?aP (fun _ hk => hk.elim) ?aF ?aO ?aB ?aS ?aL ?_; (case aP => exact rfl); (case aB => exact (by repeat (first | (with_reducible first | exact HB.out | apply kL | apply kM | apply kE | refine kS ?_ GE0.out) | exact HB.out))); (case aF => exact (fun k_ hk => (.inr (Nat.le_trans (by first | exact HK.out.1 | exact (show Kept w _ (fun k_ => (P0_0_ k_) ∨ k_ = gx0) from by repeat (first | (with_reducible first | exact HK.out | apply Kept.alloc | apply Kept.drewN | apply Kept.drew | refine Kept.setCell ?_ (.inl (.inr rfl)) _ | refine Kept.setCell ?_ (.inr GW0.out) _) | exact HK.out)).1) hk)))); (case aO => exact (by (with_reducible repeat (first | apply Kd.R_alloc | apply Kd.R_drewN | apply Kd.R_drew)); exact HO_1000.out)); (case aS => exact (below_size (by repeat (first | (with_reducible first | exact HB.out | apply kL | apply kM | apply kE | refine kS ?_ GE0.out) | exact HB.out)))); (case aL => have := LMc12.out; omega); intro v129 w14 ho hb hg hat; rw [← Ny128.out] at ho; have n0_ := Aside0.mk (blk_grown (g := gx0) (o := .cells #[u1000, .int .i64 a0_1] 60 (0, 0)) (by (with_reducible repeat (first | refine kN ?_ _ | refine kD ?_ | refine kA ?_ _)); exact BK0.out) hg (Kd.R_ne HO_1000.out BK0.out (by decide))); have n1_ := Aside0.mk (hb); have n2_ := Aside0.mk (Kept.of_grown (S := (fun k_ => (P0_0_ k_) ∨ k_ = gx0)) hg (by repeat (first | (with_reducible first | exact HK.out | apply Kept.alloc | apply Kept.drewN | apply Kept.drew | refine Kept.setCell ?_ (.inl (.inr rfl)) _ | refine Kept.setCell ?_ (.inr GW0.out) _) | exact HK.out)) (fun k_ e_ => Or.imp_left Or.inl ((HO_1000.out.1 k_ e_)))); have n3_ := Aside0.mk (ho); clear BK0; clear HB; clear HK; clear HO_1000; have BK0 := n0_; have HB := n1_; have HK := n2_; have HO130 := n3_; clear n0_ n1_ n2_ n3_; clear ho hb hg hat; obtain ⟨Ao15, co15, eo15⟩ := Kd.R_slice HO130.out; subst eo15; have hcz16_0 : w14.cell? ⟨gx0, 0, none⟩ = some (u1000) := (kC BK0.out 0).trans rfl; have hcz16_1 : w14.cell? ⟨gx0, 1, none⟩ = some (.int .i64 a0_1) := (kC BK0.out 1).trans rfl; have hfz16_0 := kF BK0.out 0; have hfz16_1 := kF BK0.out 1))
          go_roundg k2
          case measure => have := HK1.out; have := HK2.out; omega
          case rel => exact ⟨(wrap64 (x12_1 + 1)), (y128), (.slice Ao15 y128.length co15), (by first | rfl | (simp; done) | (simp [*]; done)), H', ⟨by have := HK1.out; have := HK2.out; omega⟩, ⟨by (with_reducible repeat (first | apply Kd.R_alloc | apply Kd.R_drewN | apply Kd.R_drew)); exact Kd.R_mono (Kd.R_far (p := ⟨gx0, 0, none⟩) (Kd.R_types HO130.out BK0.out (by decide)) (fun _ hk => hk.2) (.slice Ao15 y128.length co15)) (fun _ hk => hk.1)⟩, ⟨by (with_reducible repeat (first | refine kN ?_ _ | refine kD ?_ | refine kA ?_ _)); refine kP (cs := #[u1000, .int .i64 a0_1]) ?_ 0 _ rfl; (with_reducible repeat (first | refine kN ?_ _ | refine kD ?_ | refine kA ?_ _)); exact BK0.out⟩, ⟨by repeat (first | (with_reducible first | exact HK.out | apply Kept.alloc | apply Kept.drewN | apply Kept.drew | refine Kept.setCell ?_ (.inl (.inr rfl)) _ | refine Kept.setCell ?_ (.inr GW0.out) _) | exact HK.out)⟩, ⟨by repeat (first | (with_reducible first | exact HB.out | apply kL | apply kM | apply kE | refine kS ?_ GE0.out) | exact HB.out)⟩⟩
         ·rw [if_neg c12] at H
          exact absurd H (by simp)
     ·rw [if_neg c5] at H
      exact absurd H (by simp)
    ·rw [if_neg c4] at H
     exact absurd H (by simp)
   ·rw [if_neg c3] at H
    have c3b0 : decide (x12_1 < (l1.length : Int)) = false := decide_eq_false c3
    clear c3
    simp only [Option.some.injEq, Prod.mk.injEq] at H
    obtain ⟨rfl, rfl⟩ := H
    go_wp2
    go_ret
    exact ⟨(u1000), by first | rfl | (simp [errW_none, errW_some] <;> rfl) | (simp [*, errW_none, errW_some] <;> rfl), by (with_reducible repeat (first | apply Kd.R_alloc | apply Kd.R_drewN | apply Kd.R_drew)); exact HO_1000.out, by (with_reducible repeat (first | refine kN ?_ _ | refine kD ?_ | refine kA ?_ _)); exact BK0.out, by repeat (first | (with_reducible first | exact HB.out | apply kL | apply kM | apply kE | refine kS ?_ GE0.out) | exact HB.out), by repeat (first | (with_reducible first | exact HK.out | apply Kept.alloc | apply Kept.drewN | apply Kept.drew | refine Kept.setCell ?_ (.inl (.inr rfl)) _ | refine Kept.setCell ?_ (.inr GW0.out) _) | exact HK.out)⟩

end Go.Proofs.Ytlihgjonmliodaa.PA
