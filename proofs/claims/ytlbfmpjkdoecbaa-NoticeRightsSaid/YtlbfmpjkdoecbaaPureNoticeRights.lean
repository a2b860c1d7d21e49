-- which notices may be
import Derived.Test.YtlbfmpjkdoecbaaPAx10
import Derived.Test.YtlbfmpjkdoecbaaPureNear
namespace Go.Proofs.Ytlbfmpjkdoecbaa.Pure
open Go.RowKit Go.Proofs.Ytlbfmpjkdoecbaa.PA Go.Proofs.YtlbfmpjkdoecbaaW.PrintWords Go.Proofs.YtlbfmpjkdoecbaaW.PrintLast

theorem right_f (a b c d e v : Int) (r : Bool) (hk : order_Key.f a b c d e v = some r) : notice_Right.f a b c d e v = some (decide (a ≥ 1) && (decide (a ≤ 5) && (decide (v ≤ 3) && r))) := by
  unfold notice_Right.f
  rw [hk]
  by_cases h1 : a ≥ 1 <;> by_cases h2 : a ≤ 5 <;> by_cases h3 : v ≤ 3 <;> simp [h1, h2, h3]
theorem key_f (a b c d e v : Int) : ∃ r, order_Key.f a b c d e v = some r := by
  unfold order_Key.f
  repeat' split
  all_goals exact ⟨_, rfl⟩
theorem NoticeRights : paybooklaw11_NoticeRights.Pure := by
  intro a0 a1 a2 a3 a4 a5 s h0 _ _ _ _ h5
  obtain ⟨a, b, c, d, e, w, hf, ha, hb, hc, hd, he, hw⟩ := near_f a0 a1 a2 a3 a4 a5 (bounds_u8 h0) (bounds_u8 h5)
  refine ⟨2, ?_⟩
  unfold paybooklaw11_NoticeRights.f
  rw [hf]
  obtain ⟨r, hr⟩ := key_f a0 a1 a2 a3 a4 a5
  obtain ⟨q, hq⟩ := key_f (Int.tmod a0 8) b c d e (Int.tmod a5 6)
  cases s
  · simp only [awake_f, Option.bind_some, right_f _ _ _ _ _ _ r hr, hr, if_true]
    by_cases h1 : a0 ≥ 1 <;> by_cases h2 : a0 ≤ 5 <;> by_cases h3 : a5 ≤ 3 <;> simp [h1, h2, h3]
  · simp only [awake_f, Option.bind_some, right_f _ _ _ _ _ _ q hq, hq, if_true]
    by_cases h1 : Int.tmod a0 8 ≥ 1 <;> by_cases h2 : Int.tmod a0 8 ≤ 5 <;> by_cases h3 : Int.tmod a5 6 ≤ 3 <;> simp [h1, h2, h3]

end Go.Proofs.Ytlbfmpjkdoecbaa.Pure
