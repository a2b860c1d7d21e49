-- printed by this workplace: wip/patchprint.py over the kit's print
import Derived.Test.YtinmndkhipfccaaPAx0
namespace Go.Proofs.Ytinmndkhipfccaa.PA
open Go.RowKit Go.Proofs.YtinmndkhipfccaaW.PrintWords Go.Proofs.YtinmndkhipfccaaW.PrintLast Go.Proofs.YtinmndkhipfccaaW.PrintMore
attribute [local go_sem] max2_int min2_int max_two min_two max_three min_three max_four min_four   -- for this text's walks alone
set_option linter.unusedVariables false
set_option linter.unusedSimpArgs false

/-! ### pack_Box_Fault: function 18 -/
def pack_Box_Fault.f (l0_0 : List Int) (a0_1 : Int) : Option (Int × List Int × Int) := some (a0_1, l0_0, a0_1)
set_option maxHeartbeats 40000000 in
set_option maxRecDepth 100000 in
theorem pack_Box_Fault.calls (gx0 : Nat) (P0_0_ : Nat → Prop) (u9000_ : Value) (l0_0 : List Int) (a0_1 : Int) (r1 : Int) (r2 : List Int) (r3 : Int) (w0 w : World) (hB : Below w0.heap.size w0 w) (hbx0 : w.heap[gx0]? = some (.cells #[u9000_, .int .i64 a0_1] 51 (0, 0))) (hge0 : w0.heap.size ≤ gx0) (ho0_0 : Kd.Q (Kd.int .u8) 5 w w0.heap.size P0_0_ u9000_ l0_0) (h : pack_Box_Fault.f l0_0 a0_1 = some (r1, r2, r3)) :
  Calls Try.prog 18 #[.pointer (some ⟨gx0, 0, none⟩)] w fun e w' => ∃ v1_ : Value, e = .returned (.int .i64 r1) ∧ Kd.Q (Kd.int .u8) 5 w' w0.heap.size (fun k_ => (P0_0_ k_ ∨ w.heap.size ≤ k_)) v1_ r2 ∧ w'.heap[gx0]? = some (.cells #[v1_, .int .i64 r3] 51 (0, 0)) ∧ Below w0.heap.size w0 w' ∧ Kept w w' (fun k_ => (P0_0_ k_) ∨ k_ = gx0) := by
 have BK0 := Aside0.mk hbx0
 have GE0 := Aside0.mk hge0
 clear hbx0 hge0
 have HO0_0 := Aside0.mk (show Kd.Q (Kd.int .u8) 5 w w0.heap.size (fun k_ => (P0_0_ k_ ∨ w.heap.size ≤ k_)) u9000_ l0_0 from Kd.Q_mono ho0_0 (fun k_ hk => (.inl hk)))
 have HK := Aside0.mk (Kept.refl w (fun k_ => (P0_0_ k_) ∨ k_ = gx0))
 have HW0 := Aside0.mk hB.size
 have HB := Aside0.mk hB
 clear hB
 have H : (some (a0_1, l0_0, a0_1)) = some (r1, r2, r3) := h
 clear h
 simp only [Option.some.injEq, Prod.mk.injEq] at H
 obtain ⟨rfl, rfl, rfl⟩ := H
 have hcz2_0 : w.cell? ⟨gx0, 0, none⟩ = some (u9000_) := (kC BK0.out 0).trans rfl
 have hcz2_1 : w.cell? ⟨gx0, 1, none⟩ = some (.int .i64 a0_1) := (kC BK0.out 1).trans rfl
 have hfz2_0 := kF BK0.out 0
 have hfz2_1 := kF BK0.out 1
 go_enter Try.func18, Try.ntmps18
 go_wp2
 go_ret
 exact ⟨(u9000_), by first | rfl | (simp [errW_none, errW_some] <;> rfl) | (simp [*, errW_none, errW_some] <;> rfl), by (with_reducible repeat (first | apply Kd.Q_alloc | apply Kd.Q_drewN | apply Kd.Q_drew)); exact HO0_0.out, by (with_reducible repeat (first | refine kN ?_ _ | refine kD ?_ | refine kA ?_ _)); exact BK0.out, by repeat (first | (with_reducible first | exact HB.out | apply kL | apply kM | apply kE | refine kS ?_ GE0.out) | exact HB.out), by repeat (first | (with_reducible first | exact HK.out | apply Kept.alloc | apply Kept.drewN | apply Kept.drew | refine Kept.setCell ?_ (.inl (.inr rfl)) _ | refine Kept.setCell ?_ (.inr GW0.out) _) | exact HK.out)⟩

end Go.Proofs.Ytinmndkhipfccaa.PA
