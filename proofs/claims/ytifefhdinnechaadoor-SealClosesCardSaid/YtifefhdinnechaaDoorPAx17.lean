-- printed by this workplace: wip/patchprint.py over the kit's print
import Derived.Test.YtifefhdinnechaaDoorPAx0
namespace Go.Proofs.YtifefhdinnechaaDoor.PA
open Go.RowKit Go.Proofs.YtifefhdinnechaaDoorW.PrintWords Go.Proofs.YtifefhdinnechaaDoorW.PrintLast Go.Proofs.YtifefhdinnechaaDoorW.PrintMore
attribute [local go_sem] max2_int min2_int max_two min_two max_three min_three max_four min_four   -- for this text's walks alone
set_option linter.unusedVariables false
set_option linter.unusedSimpArgs false

/-! ### seal_Size: function 16 -/
def seal_Size.f (a0 : Int) : Option (Int) := some (wrap64 (16 + (mx a0 0)))
set_option maxHeartbeats 40000000 in
set_option maxRecDepth 100000 in
theorem seal_Size.calls (a0 : Int) (r : Int) (w : World) (h : seal_Size.f a0 = some r) :
  Calls Tryd.prog 16 #[.int .i64 a0] w fun e w' => e = .returned (.int .i64 r) ∧ Below w.heap.size w w' := by
 have HB := Aside0.mk (Below.refl w.heap.size w)
 have H : (some (wrap64 (16 + (mx a0 0)))) = some r := h
 clear h
 obtain ⟨ji2, hji2⟩ : ∃ j_ : Int, (mx a0 0) = j_ := ⟨_, rfl⟩
 replace H : (some (wrap64 (16 + (ji2)))) = some r := by first | (rw [hji2] at H; exact H) | (simp only [hji2] at H ⊢; exact H)
 (try (have hji2l : 0 ≤ ji2 := by (rw [← hji2]; unfold mx; (repeat' split) <;> omega)))
 (try (have hji2m : 0 ≤ ji2 := by omega))
 have hji2_ : (if a0 < 0 then 0 else a0) = ji2 := hji2
 obtain rfl := Option.some.inj H
 go_enter Tryd.func16, Tryd.ntmps16
 go_wp2
 go_ret
 exact ⟨by first | rfl | (simp [errW_none, errW_some] <;> rfl) | (simp only [← hji2]; first | rfl | (simp [errW_none, errW_some] <;> rfl)) | (simp [*, errW_none, errW_some] <;> rfl), by repeat (first | (with_reducible first | exact HB.out | apply below_alloc | apply pw_below_drewN | apply below_drew1) | exact HB.out)⟩

end Go.Proofs.YtifefhdinnechaaDoor.PA
