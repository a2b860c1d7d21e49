-- an order that may be: the laws' own, its bytes; the document's example
import Derived.Test.YtlihgjonmliodaaPAx11
import Derived.Test.YtlihgjonmliodaaPAx12
import Derived.Test.YtlihgjonmliodaaPAx13
import Derived.Test.YtlihgjonmliodaaPAx14
import Derived.Test.YtlihgjonmliodaaPAx15
import Derived.Test.YtlihgjonmliodaaPAx16
import Derived.Test.YtlihgjonmliodaaPAx3
import Derived.Test.YtlihgjonmliodaaPAx4
import Derived.Test.YtlihgjonmliodaaPAx5
import Derived.Test.YtlihgjonmliodaaPAx9
import Derived.Test.YtlihgjonmliodaaPureOrder
namespace Go.Proofs.Ytlihgjonmliodaa.Pure
open Go.RowKit Go.Proofs.Ytlihgjonmliodaa.PA Go.Proofs.YtlihgjonmliodaaW.PrintWords Go.Proofs.YtlihgjonmliodaaW.PrintLast Go.Proofs.YtlihgjonmliodaaW.PrintMore
set_option linter.unusedSimpArgs false

theorem wrap_low {a : Int} (h0 : 0 ≤ a) (h1 : a ≤ 9223372036854775807) : wrap64 a = a := by unfold wrap64; omega
theorem low_f (n m : Int) (h0 : 0 < m) (h1 : m ≤ 1125899906842624) : wrap64 (Int.tmod (IntKind.u64.wrap n) m) = Int.tmod (IntKind.u64.wrap n) m ∧ 0 ≤ Int.tmod (IntKind.u64.wrap n) m ∧ Int.tmod (IntKind.u64.wrap n) m < m := by
  have e : IntKind.u64.wrap n = n % 18446744073709551616 := wu64 n
  have h : 0 ≤ IntKind.u64.wrap n := by rw [e]; omega
  rw [Int.tmod_eq_emod_of_nonneg h]
  have p := Int.emod_nonneg (IntKind.u64.wrap n) (show m ≠ 0 by omega)
  have q := Int.emod_lt_of_pos (IntKind.u64.wrap n) h0
  exact ⟨wrap_low p (by omega), p, q⟩
theorem notice_f (a b c d e v : Int) (ha : 0 ≤ a ∧ a ≤ 255) (hv : 0 ≤ v ∧ v ≤ 255) : ∃ a' b' c' d' e' v', paybooklaw10_notice.f a b c d e v = some (a', b', c', d', e', v') ∧ noticeR a' b' c' d' e' v' ∧ e' < 1125899906842624 := by
  obtain ⟨x1, x2, x3⟩ := low_f b 32 (by omega) (by omega)
  obtain ⟨y1, y2, y3⟩ := low_f c 3652059 (by omega) (by omega)
  obtain ⟨z1, z2, z3⟩ := low_f d 101 (by omega) (by omega)
  obtain ⟨u1, u2, u3⟩ := low_f e 1125899906842624 (by omega) (by omega)
  refine ⟨_, _, _, _, _, _, rfl, ?_, ?_⟩
  · unfold noticeR keyR
    rw [x1, y1, z1, u1, Int.tmod_eq_emod_of_nonneg (a := a) (by omega), Int.tmod_eq_emod_of_nonneg (a := v) (by omega)]
    omega
  · rw [u1]; exact u3
theorem near_f {a0 : Int} (a1 a2 a3 a4 : Int) {a5 : Int} (a6 a7 : Int) (a8 a9 : Bool) {b0 : Int} (b1 b2 b3 b4 : Int) {b5 : Int} (h0 : 0 ≤ a0 ∧ a0 ≤ 255) (h5 : 0 ≤ a5 ∧ a5 ≤ 255) (g0 : 0 ≤ b0 ∧ b0 ≤ 255) (g5 : 0 ≤ b5 ∧ b5 ≤ 255) :
    ∃ x0 x1 x2 x3 x4 x5 x6 x7 x8 x9 y0 y1 y2 y3 y4 y5 l, Near x0 x1 x2 x3 x4 x5 x6 x7 x8 x9 y0 y1 y2 y3 y4 y5 l ∧ y4 < 1125899906842624 ∧
      ∀ k, paybooklaw10_near.f (k + 1) a0 a1 a2 a3 a4 a5 a6 a7 a8 a9 b0 b1 b2 b3 b4 b5 = some (x0, x1, x2, x3, x4, x5, x6, x7, x8, x9, y0, y1, y2, y3, y4, y5) := by
  obtain ⟨s1, s2, s3⟩ := low_f a1 32 (by omega) (by omega)
  obtain ⟨p1, p2, p3⟩ := low_f a2 8 (by omega) (by omega)
  obtain ⟨n1, n2, n3⟩ := low_f a3 60 (by omega) (by omega)
  have e0 : Int.tmod a0 10 = a0 % 10 := Int.tmod_eq_emod_of_nonneg (by omega)
  simp only [paybooklaw10_near.f, paybooklaw10_near.j0, e0]
  by_cases c1 : (1 + a0 % 10) % 256 = 1
  · obtain ⟨q1, q2, q3⟩ := low_f a4 1073741824 (by omega) (by omega)
    obtain ⟨r1, r2, r3⟩ := low_f a6 1000 (by omega) (by omega)
    obtain ⟨t1, t2, t3⟩ := low_f a7 1000 (by omega) (by omega)
    have e5 : Int.tmod a5 4 = a5 % 4 := Int.tmod_eq_emod_of_nonneg (by omega)
    have w : wrap64 (1 + Int.tmod (IntKind.u64.wrap a6) 1000) = 1 + Int.tmod (IntKind.u64.wrap a6) 1000 := wrap_low (by omega) (by omega)
    refine ⟨_, _, _, _, _, _, _, _, _, _, _, _, _, _, _, _, _, Near.define (p0 := Int.tmod (IntKind.u64.wrap a4) 1073741824) (p1 := a5 % 4) (p2 := 1 + Int.tmod (IntKind.u64.wrap a6) 1000) (p3 := Int.tmod (IntKind.u64.wrap a7) 1000) a8 a9 (by omega), by omega, fun k => ?_⟩
    rw [if_pos c1, c1, q1, r1, t1, w, e5]
  · by_cases c2 : (1 + a0 % 10) % 256 = 2
    · refine ⟨_, _, _, _, _, _, _, _, _, _, _, _, _, _, _, _, _, Near.with2 (k := 2) (s := Int.tmod (IntKind.u64.wrap a1) 32) (p := Int.tmod (IntKind.u64.wrap a2) 8) (by omega), by omega, fun k => ?_⟩
      simp [c2, s1, p1]
    · by_cases c3 : (1 + a0 % 10) % 256 = 3
      · refine ⟨_, _, _, _, _, _, _, _, _, _, _, _, _, _, _, _, _, Near.with2 (k := 3) (s := Int.tmod (IntKind.u64.wrap a1) 32) (p := Int.tmod (IntKind.u64.wrap a2) 8) (by omega), by omega, fun k => ?_⟩
        simp [c3, s1, p1]
      · by_cases c9 : (1 + a0 % 10) % 256 = 9
        · have w : wrap64 (1 + Int.tmod (IntKind.u64.wrap a3) 60) = 1 + Int.tmod (IntKind.u64.wrap a3) 60 := wrap_low (by omega) (by omega)
          refine ⟨_, _, _, _, _, _, _, _, _, _, _, _, _, _, _, _, _, Near.pass (n := 1 + Int.tmod (IntKind.u64.wrap a3) 60) (by omega), by omega, fun k => ?_⟩
          simp [c9, n1, w]
        · by_cases c10 : (1 + a0 % 10) % 256 = 10
          · obtain ⟨x, y, z, u, v, w, hf, hr, hl⟩ := notice_f b0 b1 b2 b3 b4 b5 g0 g5
            refine ⟨_, _, _, _, _, _, _, _, _, _, _, _, _, _, _, _, _, Near.hear hr, hl, fun k => ?_⟩
            simp [c10, hf]
          · refine ⟨_, _, _, _, _, _, _, _, _, _, _, _, _, _, _, _, _, Near.with1 (k := (1 + a0 % 10) % 256) (s := Int.tmod (IntKind.u64.wrap a1) 32) (by omega), by omega, fun k => ?_⟩
            simp [c1, c2, c3, c9, c10, s1]
def flagI (on : Bool) : Int := if on then 1 else 0
theorem flag_i64 (b : Bool) : I64 (flagI b) := by unfold I64 flagI; split <;> omega
theorem put1 {x : Int} (hx : I64 x) (p : List Int) (hp : p.length ≤ 1000000) : Ev (fun k => pack_Box_Put.f k p 0 [x]) (p ++ packI x, 0) := by
  have := put_ev (l := [x]) (by intro y hy; simp at hy; subst hy; exact hx) p 0 (by simp; omega)
  simpa [packsI] using this
theorem fput_ev (p : List Int) (on : Bool) (hp : p.length ≤ 1000000) : Ev (fun k => pack_Box_Flag.f k p 0 on) (p ++ packI (flagI on), 0) := by
  unfold pack_Box_Flag.f flagI
  cases on
  · simp only [Bool.false_eq_true, if_false]
    exact Ev.bind (put1 (by unfold I64; omega) p hp) (Ev.now _)
  · simp only [if_true]
    exact Ev.bind (put1 (by unfold I64; omega) p hp) (Ev.now _)
theorem encode_ev {a0 a1 a2 a3 a4 a5 a6 a7 : Int} {a8 a9 : Bool} {b0 b1 b2 b3 b4 b5 : Int} {l : List Int} (h : Near a0 a1 a2 a3 a4 a5 a6 a7 a8 a9 b0 b1 b2 b3 b4 b5 l) :
    Ev (fun k => order_Encode.f k a0 a1 a2 a3 a4 a5 a6 a7 a8 a9 b0 b1 b2 b3 b4 b5) (packsI l) := by
  have hr : Ev (fun k => order_Right.f k a0 a1 a2 a3 a4 a5 a6 a7 a8 a9 b0 b1 b2 b3 b4 b5) 0 := ⟨1, fun k hk => by obtain ⟨j, rfl⟩ : ∃ j, k = j + 1 := ⟨k - 1, by omega⟩; exact h.right j⟩
  have hi := h.i64
  unfold order_Encode.f
  refine Ev.bind hr ?_
  simp only [if_true, new_f, Option.bind_some]
  cases h with
  | define g l h =>
    have w1 : wrap64 1 = 1 := wrap_low (by omega) (by omega)
    have w5 : wrap64 a5 = a5 := wrap_low (by omega) (by omega)
    have i1 : I64 1 := by unfold I64; omega
    have l1 := packI_len i1
    simp only [w1]
    refine Ev.bind (put1 i1 [] (by simp)) ?_
    simp only [order_subs.f, List.nil_append]
    simp only [if_neg (show ¬ (1 : Int) ≥ 2 by omega), Option.bind_some, Bool.false_eq_true, if_false, if_true]
    unfold plan_Put.f
    have hl : ∀ x ∈ [a4, a5, a6, a7], I64 x := fun x hx => hi.1 x (by simp at hx ⊢; rcases hx with rfl | rfl | rfl | rfl <;> simp)
    have hlen := packsI_len hl
    simp only [List.length_cons, List.length_nil] at hlen
    have l2 := packI_len (flag_i64 a8)
    have l3 := packI_len (flag_i64 a9)
    simp only [w5]
    refine Ev.bind (a := (packI 1 ++ packsI [a4, a5, a6, a7] ++ packI (flagI a8) ++ packI (flagI a9), 0)) (Ev.bind (put_ev hl (packI 1) 0 (by simp; omega)) (Ev.bind (fput_ev _ a8 (by simp only [List.length_append]; omega)) (Ev.bind (fput_ev _ a9 (by simp only [List.length_append]; omega)) (Ev.now _)))) ?_
    rw [done_f _ _ (by simp only [List.length_append]; omega)]
    have e : packI 1 ++ packsI [a4, a5, a6, a7] ++ packI (flagI a8) ++ packI (flagI a9) = packsI [1, a4, a5, a6, a7, if a8 then 1 else 0, if a9 then 1 else 0] := by simp [packsI, flagI]
    rw [e]
    exact Ev.now _
  | with2 h =>
    have w : wrap64 a0 = a0 := wrap_low (by omega) (by omega)
    have i0 : I64 a0 := hi.1 _ (by simp)
    have i1 : I64 a1 := hi.1 _ (by simp)
    have i2 : I64 a2 := hi.1 _ (by simp)
    have l0 := packI_len i0
    have l1 := packI_len i1
    have l2 := packI_len i2
    have es : order_subs.f a0 = some true := by unfold order_subs.f; rw [if_pos (by omega), decide_eq_true (by omega)]
    have ep : order_plans.f a0 = some true := by obtain ⟨rfl | rfl, _⟩ := h <;> simp [order_plans.f]
    simp only [w, es, ep]
    refine Ev.bind (put1 i0 [] (by simp)) ?_
    simp only [Option.bind_some, if_true, List.nil_append]
    refine Ev.bind (put1 i1 _ (by omega)) (Ev.bind (put1 i2 _ (by simp only [List.length_append]; omega)) ?_)
    dsimp only
    rw [done_f _ _ (by simp only [List.length_append]; omega), show packI a0 ++ packI a1 ++ packI a2 = packsI [a0, a1, a2] by simp [packsI]]
    exact Ev.now _
  | with1 h =>
    have w : wrap64 a0 = a0 := wrap_low (by omega) (by omega)
    have i0 : I64 a0 := hi.1 _ (by simp)
    have i1 : I64 a1 := hi.1 _ (by simp)
    have l0 := packI_len i0
    have l1 := packI_len i1
    have es : order_subs.f a0 = some true := by unfold order_subs.f; rw [if_pos (by omega), decide_eq_true (by omega)]
    have ep : order_plans.f a0 = some false := by unfold order_plans.f; rw [if_neg (by omega)]; simp; omega
    simp only [w, es, ep]
    refine Ev.bind (put1 i0 [] (by simp)) ?_
    simp only [Option.bind_some, if_true, List.nil_append]
    refine Ev.bind (put1 i1 _ (by omega)) ?_
    simp only [Bool.false_eq_true, if_false]
    rw [done_f _ _ (by simp only [List.length_append]; omega), show packI a0 ++ packI a1 = packsI [a0, a1] by simp [packsI]]
    exact Ev.now _
  | pass h =>
    have w : wrap64 9 = 9 := wrap_low (by omega) (by omega)
    have i0 : I64 9 := by unfold I64; omega
    have i1 : I64 a3 := hi.1 _ (by simp)
    have l0 := packI_len i0
    have l1 := packI_len i1
    have es : order_subs.f 9 = some false := by simp [order_subs.f]
    simp only [w, es]
    refine Ev.bind (put1 i0 [] (by simp)) ?_
    simp only [Option.bind_some, List.nil_append, Bool.false_eq_true, if_false, if_neg (show ¬ (9 : Int) = 1 by omega), if_true]
    refine Ev.bind (put1 i1 _ (by omega)) ?_
    dsimp only
    rw [done_f _ _ (by simp only [List.length_append]; omega), show packI 9 ++ packI a3 = packsI [9, a3] by simp [packsI]]
    exact Ev.now _
  | hear h =>
    have w : wrap64 10 = 10 := wrap_low (by omega) (by omega)
    have w0 : wrap64 b0 = b0 := by unfold noticeR at h; exact wrap_low (by omega) (by omega)
    have w5 : wrap64 b5 = b5 := by unfold noticeR at h; exact wrap_low (by omega) (by omega)
    have i0 : I64 10 := by unfold I64; omega
    have l0 := packI_len i0
    have hl : ∀ x ∈ [b0, b1, b2, b3, b4, b5], I64 x := fun x hx => hi.1 x (List.mem_cons_of_mem _ hx)
    have hlen := packsI_len hl
    simp only [List.length_cons, List.length_nil] at hlen
    have es : order_subs.f 10 = some false := by simp [order_subs.f]
    simp only [w, es]
    refine Ev.bind (put1 i0 [] (by simp)) ?_
    simp only [Option.bind_some, List.nil_append, Bool.false_eq_true, if_false, if_neg (show ¬ (10 : Int) = 1 by omega), if_neg (show ¬ (10 : Int) = 9 by omega)]
    unfold order_Put.f
    simp only [w0, w5]
    refine Ev.bind (a := (packI 10 ++ packsI [b0, b1, b2, b3, b4, b5], 0)) (Ev.bind (put_ev hl (packI 10) 0 (by simp; omega)) (Ev.now _)) ?_
    rw [done_f _ _ (by simp only [List.length_append]; omega), show packI 10 ++ packsI [b0, b1, b2, b3, b4, b5] = packsI [10, b0, b1, b2, b3, b4, b5] from rfl]
    exact Ev.now _
theorem awake_ev : Ev (fun k => paybooklaw10_awake.f k) true := by
  unfold paybooklaw10_awake.f
  refine Ev.bind (encode_ev (Near.pass (n := 7) (by omega))) ?_
  have e : packsI [9, 7] = [18, 14] := by
    simp only [packsI, List.flatMap_cons, List.flatMap_nil, packI, zz, List.append_nil]
    rw [enc_lt (by simp), enc_lt (by simp)]; rfl
  rw [e, show ((strOfNums [18, 14]).toList == ([18, 14] : List UInt8)) = true by rw [Lib.strOfNums_toList]; rfl]
  exact Ev.now _

end Go.Proofs.Ytlihgjonmliodaa.Pure
