-- a cycle that may be, in each phase; the document's example; what its answers are
import Derived.Test.YtlfaaogifplgeaaDoorPAx3
import Derived.OpenShut
namespace Go.Proofs.YtlfaaogifplgeaaDoor.Pure
open Go.RowKit Go.Proofs.YtlfaaogifplgeaaDoor.PA Go.Proofs.YtlfaaogifplgeaaDoorW.PrintWords Go.Proofs.YtlfaaogifplgeaaDoorW.PrintLast Go.Proofs.YtlfaaogifplgeaaDoorW.PrintMore

theorem w_of {a : Int} (h0 : -9223372036854775808 ≤ a) (h1 : a ≤ 9223372036854775807) : wrap64 a = a := by unfold wrap64; omega
/-- a cycle's phase, try, next day, as they may be -/
def May (a6 ph tr nx : Int) : Prop := (ph = 1 ∧ (tr = 1 ∨ tr = 2 ∨ tr = 3 ∨ tr = 4) ∧ nx = 0) ∨ (ph = 2 ∧ (tr = 1 ∨ tr = 2 ∨ tr = 3) ∧ nx = a6) ∨ ((ph = 3 ∨ ph = 4 ∨ ph = 5 ∨ ph = 6 ∨ ph = 7 ∨ ph = 8 ∨ ph = 9 ∨ ph = 10) ∧ tr = 0 ∧ nx = 0)
theorem at_f {a0 a1 a2 a3 a4 a5 a6 : Int} (a7 : Bool) (h0 : 0 ≤ a0 ∧ a0 ≤ 255) (h1 : 0 ≤ a1 ∧ a1 ≤ 65535) (h2 : 0 ≤ a2 ∧ a2 ≤ 65535) (h3 : 0 ≤ a3 ∧ a3 ≤ 4294967295) (h4 : -2147483648 ≤ a4 ∧ a4 ≤ 2147483647) (h5 : 0 ≤ a5 ∧ a5 ≤ 255) (h6 : 0 ≤ a6 ∧ a6 ≤ 65535) :
    ∃ ph tr nx, May a6 ph tr nx ∧ ∀ k, paybooklaw12_at.f (k + 1) a0 a1 a2 a3 a4 a5 a6 a7 = some (a1, a2, ph, a3, a4, tr, nx, a7) := by
  have e1 := w_of (a := a1) (by omega) (by omega)
  have e2 := w_of (a := a2) (by omega) (by omega)
  have e3 := w_of (a := a3) (by omega) (by omega)
  have e4 := w_of (a := a4) (by omega) (by omega)
  have e6 := w_of (a := a6) (by omega) (by omega)
  have t0 : Int.tmod a0 10 = a0 % 10 := Int.tmod_eq_emod_of_nonneg (by omega)
  have t3 : Int.tmod a5 3 = a5 % 3 := Int.tmod_eq_emod_of_nonneg (by omega)
  have t4 : Int.tmod a5 4 = a5 % 4 := Int.tmod_eq_emod_of_nonneg (by omega)
  have u3 : wrap64 (1 + wrap64 (a5 % 3)) = 1 + a5 % 3 := by unfold wrap64; omega
  have u4 : wrap64 (1 + wrap64 (a5 % 4)) = 1 + a5 % 4 := by unfold wrap64; omega
  simp only [paybooklaw12_at.f, paybooklaw12_at.j0, e1, e2, e3, e4, e6, t0, t3, t4, u3, u4]
  by_cases p1 : (1 + a0 % 10) % 256 = 1
  · exact ⟨1, 1 + a5 % 4, 0, by unfold May; omega, fun k => by simp [p1]⟩
  · by_cases p2 : (1 + a0 % 10) % 256 = 2
    · exact ⟨2, 1 + a5 % 3, a6, by unfold May; omega, fun k => by simp [p2]⟩
    · exact ⟨(1 + a0 % 10) % 256, 0, 0, by unfold May; omega, fun k => by simp [p1, p2]⟩

end Go.Proofs.YtlfaaogifplgeaaDoor.Pure
