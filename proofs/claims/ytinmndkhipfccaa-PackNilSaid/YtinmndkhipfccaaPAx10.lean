-- printed by this workplace: wip/patchprint.py over the kit's print
import Derived.Test.YtinmndkhipfccaaPAx0
namespace Go.Proofs.Ytinmndkhipfccaa.PA
open Go.RowKit Go.Proofs.YtinmndkhipfccaaW.PrintWords Go.Proofs.YtinmndkhipfccaaW.PrintLast Go.Proofs.YtinmndkhipfccaaW.PrintMore
attribute [local go_sem] max2_int min2_int max_two min_two max_three min_three max_four min_four   -- for this text's walks alone
set_option linter.unusedVariables false
set_option linter.unusedSimpArgs false

/-! ### pack_Box_fail: function 26 -/
def pack_Box_fail.f (l0_0 : List Int) (a0_1 : Int) (a1 : Int) : Option (List Int × Int) := if a0_1 = 0 then (some (l0_0, a1)) else (some (l0_0, a0_1))
set_option maxHeartbeats 40000000 in
set_option maxRecDepth 100000 in
theorem pack_Box_fail.calls (gx0 : Nat) (P0_0_ : Nat → Prop) (u9000_ : Value) (l0_0 : List Int) (a0_1 : Int) (a1 : Int) (r1 : List Int) (r2 : Int) (w0 w : World) (hB : Below w0.heap.size w0 w) (hbx0 : w.heap[gx0]? = some (.cells #[u9000_, .int .i64 a0_1] 51 (0, 0))) (hge0 : w0.heap.size ≤ gx0) (ho0_0 : Kd.Q (Kd.int .u8) 5 w w0.heap.size P0_0_ u9000_ l0_0) (h : pack_Box_fail.f l0_0 a0_1 a1 = some (r1, r2)) :
  Calls Try.prog 26 #[.pointer (some ⟨gx0, 0, none⟩), .int .i64 a1] w fun e w' => ∃ v0_ : Value, e = .returned (.tuple #[]) ∧ Kd.Q (Kd.int .u8) 5 w' w0.heap.size (fun k_ => (P0_0_ k_ ∨ w.heap.size ≤ k_)) v0_ r1 ∧ w'.heap[gx0]? = some (.cells #[v0_, .int .i64 r2] 51 (0, 0)) ∧ Below w0.heap.size w0 w' ∧ Kept w w' (fun k_ => (P0_0_ k_) ∨ k_ = gx0) := by
 have BK0 := Aside0.mk hbx0
 have GE0 := Aside0.mk hge0
 clear hbx0 hge0
 have HO0_0 := Aside0.mk (show Kd.Q (Kd.int .u8) 5 w w0.heap.size (fun k_ => (P0_0_ k_ ∨ w.heap.size ≤ k_)) u9000_ l0_0 from Kd.Q_mono ho0_0 (fun k_ hk => (.inl hk)))
 have HK := Aside0.mk (Kept.refl w (fun k_ => (P0_0_ k_) ∨ k_ = gx0))
 have HW0 := Aside0.mk hB.size
 have HB := Aside0.mk hB
 clear hB
 have H : (if a0_1 = 0 then (some (l0_0, a1)) else (some (l0_0, a0_1))) = some (r1, r2) := h
 clear h
 by_cases c3 : a0_1 = 0
 ·rw [if_pos c3] at H
  have c3b0 : (a0_1 == 0) = true := beq_iff_eq.mpr c3
  have c3b1 : (a0_1 != 0) = false := bne_eq_false_iff_eq.mpr c3
  clear c3
  simp only [Option.some.injEq, Prod.mk.injEq] at H
  obtain ⟨rfl, rfl⟩ := H
  have hcz4_0 : w.cell? ⟨gx0, 0, none⟩ = some (u9000_) := (kC BK0.out 0).trans rfl
  have hcz4_1 : w.cell? ⟨gx0, 1, none⟩ = some (.int .i64 a0_1) := (kC BK0.out 1).trans rfl
  have hfz4_0 := kF BK0.out 0
  have hfz4_1 := kF BK0.out 1
  go_enter Try.func26, Try.ntmps26
  go_wp2
  first | go_end0 | ((try simp only [Exit.inBlock, Exit.then]); refine bodyPost_ret (results_none rfl _ _ _) rfl ?_)
  first | exact ⟨(u9000_), by first | rfl | (simp [errW_none, errW_some] <;> rfl) | (simp [*, errW_none, errW_some] <;> rfl), by (with_reducible repeat (first | apply Kd.Q_alloc | apply Kd.Q_drewN | apply Kd.Q_drew)); exact Kd.Q_mono (Kd.Q_far (p := ⟨gx0, 1, none⟩) (Kd.Q_types HO0_0.out BK0.out (by decide)) (fun _ hk => hk.2) (.int .i64 a1)) (fun _ hk => hk.1), by (with_reducible repeat (first | refine kN ?_ _ | refine kD ?_ | refine kA ?_ _)); refine kP (cs := #[u9000_, .int .i64 a0_1]) ?_ 1 _ rfl; (with_reducible repeat (first | refine kN ?_ _ | refine kD ?_ | refine kA ?_ _)); exact BK0.out, by repeat (first | (with_reducible first | exact HB.out | apply kL | apply kM | apply kE | refine kS ?_ GE0.out) | exact HB.out), by repeat (first | (with_reducible first | exact HK.out | apply Kept.alloc | apply Kept.drewN | apply Kept.drew | refine Kept.setCell ?_ (.inl (.inr rfl)) _ | refine Kept.setCell ?_ (.inr GW0.out) _) | exact HK.out)⟩ | exact ⟨rfl, (u9000_), by (with_reducible repeat (first | apply Kd.Q_alloc | apply Kd.Q_drewN | apply Kd.Q_drew)); exact Kd.Q_mono (Kd.Q_far (p := ⟨gx0, 1, none⟩) (Kd.Q_types HO0_0.out BK0.out (by decide)) (fun _ hk => hk.2) (.int .i64 a1)) (fun _ hk => hk.1), by (with_reducible repeat (first | refine kN ?_ _ | refine kD ?_ | refine kA ?_ _)); refine kP (cs := #[u9000_, .int .i64 a0_1]) ?_ 1 _ rfl; (with_reducible repeat (first | refine kN ?_ _ | refine kD ?_ | refine kA ?_ _)); exact BK0.out, by repeat (first | (with_reducible first | exact HB.out | apply kL | apply kM | apply kE | refine kS ?_ GE0.out) | exact HB.out), by repeat (first | (with_reducible first | exact HK.out | apply Kept.alloc | apply Kept.drewN | apply Kept.drew | refine Kept.setCell ?_ (.inl (.inr rfl)) _ | refine Kept.setCell ?_ (.inr GW0.out) _) | exact HK.out)⟩
 ·rw [if_neg c3] at H
  have c3b0 : (a0_1 == 0) = false := beq_eq_false_iff_ne.mpr c3
  have c3b1 : (a0_1 != 0) = true := bne_iff_ne.mpr c3
  simp only [Option.some.injEq, Prod.mk.injEq] at H
  obtain ⟨rfl, rfl⟩ := H
  have hcz5_0 : w.cell? ⟨gx0, 0, none⟩ = some (u9000_) := (kC BK0.out 0).trans rfl
  have hcz5_1 : w.cell? ⟨gx0, 1, none⟩ = some (.int .i64 a0_1) := (kC BK0.out 1).trans rfl
  have hfz5_0 := kF BK0.out 0
  have hfz5_1 := kF BK0.out 1
  go_enter Try.func26, Try.ntmps26
  go_wp2
  first | go_end0 | ((try simp only [Exit.inBlock, Exit.then]); refine bodyPost_ret (results_none rfl _ _ _) rfl ?_)
  first | exact ⟨(u9000_), by first | rfl | (simp [errW_none, errW_some] <;> rfl) | (simp [*, errW_none, errW_some] <;> rfl), by (with_reducible repeat (first | apply Kd.Q_alloc | apply Kd.Q_drewN | apply Kd.Q_drew)); exact HO0_0.out, by (with_reducible repeat (first | refine kN ?_ _ | refine kD ?_ | refine kA ?_ _)); exact BK0.out, by repeat (first | (with_reducible first | exact HB.out | apply kL | apply kM | apply kE | refine kS ?_ GE0.out) | exact HB.out), by repeat (first | (with_reducible first | exact HK.out | apply Kept.alloc | apply Kept.drewN | apply Kept.drew | refine Kept.setCell ?_ (.inl (.inr rfl)) _ | refine Kept.setCell ?_ (.inr GW0.out) _) | exact HK.out)⟩ | exact ⟨rfl, (u9000_), by (with_reducible repeat (first | apply Kd.Q_alloc | apply Kd.Q_drewN | apply Kd.Q_drew)); exact HO0_0.out, by (with_reducible repeat (first | refine kN ?_ _ | refine kD ?_ | refine kA ?_ _)); exact BK0.out, by repeat (first | (with_reducible first | exact HB.out | apply kL | apply kM | apply kE | refine kS ?_ GE0.out) | exact HB.out), by repeat (first | (with_reducible first | exact HK.out | apply Kept.alloc | apply Kept.drewN | apply Kept.drew | refine Kept.setCell ?_ (.inl (.inr rfl)) _ | refine Kept.setCell ?_ (.inr GW0.out) _) | exact HK.out)⟩

end Go.Proofs.Ytinmndkhipfccaa.PA
