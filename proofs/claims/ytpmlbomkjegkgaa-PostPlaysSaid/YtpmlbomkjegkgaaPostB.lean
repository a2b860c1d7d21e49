/- place, Len and Send of a post. -/
import Derived.Test.YtpmlbomkjegkgaaPostA
import Derived.Outline
namespace Go.Proofs.Ytpmlbomkjegkgaa
open Go.RowKit Go.Proofs.YtpmlbomkjegkgaaW.PrintWords
set_option linter.unusedVariables false

theorem len_nil (w : World) : Calls Try.prog 9 #[.pointer none] w fun e w' => e = .returned (.int .i64 0) ∧ w' = w := by
  go_enter Try.func9, Try.ntmps9
  go_wp2
  go_ret
  exact ⟨rfl, rfl⟩
theorem cell1 {w : World} {g : Nat} {t : TypeId} {a : Value} (h : w.heap[g]? = some (.cells #[a] t (0, 0))) : w.cell? ⟨g, 0, none⟩ = some a ∧ ∀ j, w.frozen? ⟨g, j, none⟩ = false := ⟨(blk_cell h 0).trans rfl, fun j => blk_frozen h j⟩
theorem len_any (c n cap : Nat) (A : Option Addr) (w : World) (hb : w.heap[c]? = some (.cells #[.slice A n cap] 27 (0, 0))) : Calls Try.prog 9 #[.pointer (some ⟨c, 0, none⟩)] w fun e w' => e = .returned (.int .i64 n) ∧ w' = w := by
  obtain ⟨hc, hf⟩ := cell1 hb
  go_enter Try.func9, Try.ntmps9
  go_wp2
  go_ret
  exact ⟨rfl, rfl⟩
theorem place_nil (i : Int) (w : World) : Calls Try.prog 12 #[.pointer none, .int .i64 i] w fun e w' => e = .returned (.int .i64 (-1)) ∧ w' = w := by
  go_enter Try.func12, Try.ntmps12
  go_wp2
  go_ret
  exact ⟨rfl, rfl⟩
theorem place_none (c cap : Nat) (A : Option Addr) (i : Int) (w : World) (hb : w.heap[c]? = some (.cells #[.slice A 0 cap] 27 (0, 0))) : Calls Try.prog 12 #[.pointer (some ⟨c, 0, none⟩), .int .i64 i] w fun e w' => e = .returned (.int .i64 (-1)) ∧ w' = w := by
  obtain ⟨hc, hf⟩ := cell1 hb
  go_enter Try.func12, Try.ntmps12
  go_wp2
  go_ret
  exact ⟨rfl, rfl⟩
set_option maxHeartbeats 1000000 in
theorem place_any (c n cap : Nat) (A : Option Addr) (i : Int) (w : World) (hb : w.heap[c]? = some (.cells #[.slice A n cap] 27 (0, 0))) (hn : 0 < n) (hn2 : n < 100000) : Calls Try.prog 12 #[.pointer (some ⟨c, 0, none⟩), .int .i64 i] w fun e w' => e = .returned (.int .i64 ((i.tmod n + n).tmod n)) ∧ w' = w := by
  obtain ⟨hc, hf⟩ := cell1 hb
  have h0 : ((n : Int) == 0) = false := by simp; omega
  have h1 : (n : Int) ≠ 0 := by omega
  have hw : wrap64 (i.tmod n + n) = i.tmod n + n := by
    have h1 := Int.tmod_lt_of_pos i (show (0:Int) < n by omega)
    have h2 := Int.lt_tmod_of_pos i (show (0:Int) < n by omega)
    unfold wrap64; omega
  go_enter Try.func12, Try.ntmps12
  go_wp2
  go_ret
  rw [hw]
  exact ⟨rfl, rfl⟩
end Go.Proofs.Ytpmlbomkjegkgaa
