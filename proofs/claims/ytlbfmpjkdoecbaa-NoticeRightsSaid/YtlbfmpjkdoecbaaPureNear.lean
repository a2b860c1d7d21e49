-- the notice that may be, and the document's example
import Derived.Test.YtlbfmpjkdoecbaaPAx2
import Derived.Test.YtlbfmpjkdoecbaaPAx6
import Derived.OpenShut
namespace Go.Proofs.Ytlbfmpjkdoecbaa.Pure
open Go.RowKit Go.Proofs.Ytlbfmpjkdoecbaa.PA Go.Proofs.YtlbfmpjkdoecbaaW.PrintWords Go.Proofs.YtlbfmpjkdoecbaaW.PrintLast Go.Proofs.YtlbfmpjkdoecbaaW.PrintMore

theorem awake_f (k : Nat) : paybooklaw11_awake.f (k + 1) = some true := by
  simp [paybooklaw11_awake.f, notice_Party.f, notice_Party.j0, notice_Answer.f]
theorem near_f (a b c d e v : Int) (ha : 0 ≤ a ∧ a ≤ 255) (hv : 0 ≤ v ∧ v ≤ 255) : ∃ a' b' c' d' e' v', paybooklaw11_near.f a b c d e v = some (a', b', c', d', e', v') ∧
    (1 ≤ a' ∧ a' ≤ 5) ∧ (0 ≤ b' ∧ b' ≤ 31) ∧ (0 ≤ c' ∧ c' ≤ 3652058) ∧ (0 ≤ d' ∧ d' ≤ 100) ∧ (0 ≤ e' ∧ e' < 1125899906842624) ∧ (0 ≤ v' ∧ v' ≤ 3) := by
  have w (n : Int) : IntKind.u64.wrap n = n % 18446744073709551616 := by simp [IntKind.wrap, IntKind.bits, IntKind.signed]
  refine ⟨_, _, _, _, _, _, rfl, ?_⟩
  rw [w, w, w, w, Int.tmod_eq_emod_of_nonneg (by omega), Int.tmod_eq_emod_of_nonneg (by omega), Int.tmod_eq_emod_of_nonneg (by omega), Int.tmod_eq_emod_of_nonneg (by omega), Int.tmod_eq_emod_of_nonneg (by omega), Int.tmod_eq_emod_of_nonneg (by omega)]
  unfold wrap64
  omega
end Go.Proofs.Ytlbfmpjkdoecbaa.Pure
