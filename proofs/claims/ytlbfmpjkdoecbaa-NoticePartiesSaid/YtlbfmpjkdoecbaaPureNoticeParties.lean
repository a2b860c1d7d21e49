-- to whom a notice goes
import Derived.Test.YtlbfmpjkdoecbaaPAx7
import Derived.Test.YtlbfmpjkdoecbaaPureNear
namespace Go.Proofs.Ytlbfmpjkdoecbaa.Pure
open Go.RowKit Go.Proofs.Ytlbfmpjkdoecbaa.PA Go.Proofs.YtlbfmpjkdoecbaaW.PrintWords Go.Proofs.YtlbfmpjkdoecbaaW.PrintLast

theorem NoticeParties : paybooklaw11_NoticeParties.Pure := by
  intro a0 a1 a2 a3 a4 a5 v h0 _ _ _ _ h5 hv
  obtain ⟨a, b, c, d, e, w, hf, ha, hb, hc, hd, he, hw⟩ := near_f a0 a1 a2 a3 a4 a5 (bounds_u8 h0) (bounds_u8 h5)
  refine ⟨2, ?_⟩
  unfold paybooklaw11_NoticeParties.f
  rw [hf]
  have ca : a = 1 ∨ a = 2 ∨ a = 3 ∨ a = 4 ∨ a = 5 := by omega
  by_cases hz : w = 0 <;> rcases ca with rfl | rfl | rfl | rfl | rfl <;> simp [hz, paybooklaw11_NoticeParties.j0, awake_f, notice_Answer.f, notice_Asked.f, notice_Party.f, notice_Party.j0, rd]

end Go.Proofs.Ytlbfmpjkdoecbaa.Pure
