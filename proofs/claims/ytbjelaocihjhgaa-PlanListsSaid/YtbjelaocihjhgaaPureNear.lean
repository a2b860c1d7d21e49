/- A plan that may be, made of any. Its numbers lie within their bounds. -/
import Derived.Test.YtbjelaocihjhgaaPAx2
import Derived.OpenShut
namespace Go.Proofs.Ytbjelaocihjhgaa.Pure
open Go.RowKit Go.Proofs.Ytbjelaocihjhgaa.PA Go.Proofs.YtbjelaocihjhgaaW.PrintWords Go.Proofs.YtbjelaocihjhgaaW.PrintLast Go.Proofs.YtbjelaocihjhgaaW.PrintMore

def PlanOk (p0 p1 p2 p3 : Int) : Prop := (0 ≤ p0 ∧ p0 ≤ 1073741824) ∧ (0 ≤ p1 ∧ p1 ≤ 3) ∧ (1 ≤ p2 ∧ p2 ≤ 1000) ∧ (0 ≤ p3 ∧ p3 ≤ 1000)
theorem near_f {a0 a1 a2 a3 : Int} (a4 a5 : Bool) (_h0 : (Lit.int .i64 a0).wf = true) (h1 : (Lit.int .u8 a1).wf = true) (_h2 : (Lit.int .i64 a2).wf = true) (_h3 : (Lit.int .i64 a3).wf = true) :
    ∃ p0 p1 p2 p3, PlanOk p0 p1 p2 p3 ∧ paybooklaw09_near.f a0 a1 a2 a3 a4 a5 = some (p0, p1, p2, p3, a4, a5) := by
  have h1 := bounds_u8 h1
  have w (n : Int) : IntKind.u64.wrap n = n % 18446744073709551616 := by simp [IntKind.wrap, IntKind.bits, IntKind.signed]
  refine ⟨_, _, _, _, ?_, rfl⟩
  unfold PlanOk
  rw [w, w, w, Int.tmod_eq_emod_of_nonneg (by omega), Int.tmod_eq_emod_of_nonneg (by omega), Int.tmod_eq_emod_of_nonneg (by omega), Int.tmod_eq_emod_of_nonneg (by omega)]
  unfold wrap64
  omega

end Go.Proofs.Ytbjelaocihjhgaa.Pure
