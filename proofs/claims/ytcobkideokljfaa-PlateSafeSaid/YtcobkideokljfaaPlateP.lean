/- The reference's plate: Put. -/
import Derived.Test.YtcobkideokljfaaPlateO
namespace Go.Proofs.Ytcobkideokljfaa
open Go.RowKit Go.Proofs.YtcobkideokljfaaW.PrintWords Go.Proofs.YtcobkideokljfaaW.PrintLast Go.Proofs.YtcobkideokljfaaW.PrintMore
set_option linter.unusedVariables false
set_option linter.unusedSimpArgs false
set_option maxHeartbeats 4000000 in
theorem rput_bad {w : World} {P : Nat → Prop} {x : Value} {p : St} {sp : Int} (H : RefIs w P x p sp) (y : Int) (A : Option Addr) (n cb : Nat) (h : y < 0 ∨ (p.safe.length : Int) ≤ y ∨ 64 < n) :
    Calls Try.prog 28 #[x, .int .i64 y, .slice A n cb] w fun e w' => ∃ x', e = .returned (.tuple #[x', .int .i64 1]) ∧ RefIs w' (fun k => P k ∨ w.heap.size ≤ k) x' p sp ∧ Below w.heap.size w w' := by
  have HH := Aside0.mk H
  obtain ⟨A0, c0, A1, c1, rfl, _, _⟩ := H
  have hb1 := below_alloc (below_alloc (Below.refl w.heap.size w) (.cells #[.slice A0 p.safe.length c0, .slice A1 p.wet.length c1, .int .i64 p.left, .int .i64 sp, .bool p.off, .int .i64 p.acts] 33)) (.cells #[.slice A0 p.safe.length c0, .slice A1 p.wet.length c1, .int .i64 p.left, .int .i64 sp, .bool p.off, .int .i64 p.acts] 33)
  have fin : ∀ w' : World, Below w.heap.size w w' → RefIs w' (fun k => P k ∨ w.heap.size ≤ k) (.agg #[.slice A0 p.safe.length c0, .slice A1 p.wet.length c1, .int .i64 p.left, .int .i64 sp, .bool p.off, .int .i64 p.acts]) p sp := fun w' hb => (HH.out.below hb).mono (fun k hk => .inl hk)
  have HF := Aside0.mk fin
  have HB2 := Aside0.mk hb1
  have HN : Aside0 (((w.alloc (.cells #[.slice A0 p.safe.length c0, .slice A1 p.wet.length c1, .int .i64 p.left, .int .i64 sp, .bool p.off, .int .i64 p.acts] 33)).alloc (.cells #[.slice A0 p.safe.length c0, .slice A1 p.wet.length c1, .int .i64 p.left, .int .i64 sp, .bool p.off, .int .i64 p.acts] 33)).heap[w.heap.size + 1]? = some (.cells #[.slice A0 p.safe.length c0, .slice A1 p.wet.length c1, .int .i64 p.left, .int .i64 sp, .bool p.off, .int .i64 p.acts] 33 (0, 0))) := ⟨by have h := blk_new (w.alloc (.cells #[.slice A0 p.safe.length c0, .slice A1 p.wet.length c1, .int .i64 p.left, .int .i64 sp, .bool p.off, .int .i64 p.acts] 33)) (.cells #[.slice A0 p.safe.length c0, .slice A1 p.wet.length c1, .int .i64 p.left, .int .i64 sp, .bool p.off, .int .i64 p.acts] 33); simpa using h⟩
  clear fin hb1
  have HB0 := Aside0.mk (below_alloc (Below.refl w.heap.size w) (.cells #[.slice A0 p.safe.length c0, .slice A1 p.wet.length c1, .int .i64 p.left, .int .i64 sp, .bool p.off, .int .i64 p.acts] 33))
  by_cases hx : y < 0
  · clear h
    go_enter Try.func28, Try.ntmps28
    go_wp2_with fail
    refine bodyPost_ret (results_ct rfl _ _ (w.heap.size + 1) 33 _ (0, 0) _ rfl HN.out Try.underlying33 rfl (by kernel_rfl)) rfl ?_
    exact ⟨_, rfl, HF.out _ HB2.out, HB2.out⟩
  by_cases hy : (p.safe.length : Int) ≤ y
  · clear h
    go_enter Try.func28, Try.ntmps28
    go_wp2_with fail
    refine bodyPost_ret (results_ct rfl _ _ (w.heap.size + 1) 33 _ (0, 0) _ rfl HN.out Try.underlying33 rfl (by kernel_rfl)) rfl ?_
    exact ⟨_, rfl, HF.out _ HB2.out, HB2.out⟩
  · have hn : (64 : Int) < (n : Int) := by omega
    have hy2 : y < (p.safe.length : Int) := by omega
    clear h
    go_enter Try.func28, Try.ntmps28
    go_wp2_with fail
    refine bodyPost_ret (results_ct rfl _ _ (w.heap.size + 1) 33 _ (0, 0) _ rfl HN.out Try.underlying33 rfl (by kernel_rfl)) rfl ?_
    exact ⟨_, rfl, HF.out _ HB2.out, HB2.out⟩
end Go.Proofs.Ytcobkideokljfaa
