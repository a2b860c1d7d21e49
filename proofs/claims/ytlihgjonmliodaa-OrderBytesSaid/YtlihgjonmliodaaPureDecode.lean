/- What is read of any bytes as an order: one that may be, of which they are the very bytes; or none. -/
import Derived.Test.YtlihgjonmliodaaPureOrderB
import Derived.Test.YtlihgjonmliodaaPAx23
import Derived.Test.YtlihgjonmliodaaPAx26
import Derived.Test.YtlihgjonmliodaaPAx27
import Derived.Test.YtlihgjonmliodaaPAx5
import Derived.Test.YtlihgjonmliodaaPAx9
namespace Go.Proofs.Ytlihgjonmliodaa.Pure
open Go.RowKit Go.Proofs.Ytlihgjonmliodaa.PA Go.Proofs.YtlihgjonmliodaaW.PrintWords Go.Proofs.YtlihgjonmliodaaW.PrintLast Go.Proofs.YtlihgjonmliodaaW.PrintMore
set_option linter.unusedSimpArgs false
set_option linter.unusedVariables false

theorem zz_unzz (u : Nat) : zz (unzz u) = u := by
  unfold zz unzz
  by_cases h : u % 2 = 0
  · rw [if_pos h, if_neg (by omega)]; omega
  · rw [if_neg h, if_pos (by omega)]; omega
theorem parse_canon : ∀ (l : List Int) (i u U n : Nat), Byt l → i ≤ 10 → parse i u l = (0, U, n) → ∃ v m : Nat, U = u + v * 64 ^ i ∧ n = i + m ∧ l = enc v ++ l.drop m ∧ (i > 0 → v > 0) := by
  intro l
  induction l with
  | nil => intro i u U n _ _ h; simp [parse] at h
  | cons c cs ih =>
    intro i u U n hb hi h
    have hc := hb c (by simp)
    unfold parse at h
    by_cases h1 : c ≥ 128 ∨ (i = 10 ∧ c ≥ 16) ∨ (i > 0 ∧ c = 0)
    · rw [if_pos h1] at h; simp at h
    · rw [if_neg h1] at h
      by_cases h2 : c ≥ 64
      · rw [if_pos h2] at h
        have hi10 : i + 1 ≤ 10 := by omega
        obtain ⟨v, m, e1, e2, e3, e4⟩ := ih (i + 1) _ U n (fun x hx => hb x (by simp [hx])) hi10 h
        have hv := e4 (by omega)
        refine ⟨(c % 64).toNat + 64 * v, m + 1, ?_, by omega, ?_, fun _ => by omega⟩
        · rw [e1, Nat.pow_succ, Nat.add_mul]
          rw [show 64 * v * 64 ^ i = v * (64 ^ i * 64) by rw [Nat.mul_comm (64 ^ i) 64, ← Nat.mul_assoc, Nat.mul_comm v 64]]
          omega
        · rw [enc_ge (by omega)]
          have g1 : ((((c % 64).toNat + 64 * v) % 64 + 64 : Nat) : Int) = c := by omega
          have g2 : ((c % 64).toNat + 64 * v) / 64 = v := by omega
          rw [g1, g2]
          show c :: cs = c :: (enc v ++ cs.drop m)
          rw [← e3]
      · rw [if_neg h2] at h
        injection h with _ h
        injection h with hU hn
        refine ⟨c.toNat, 1, ?_, by omega, ?_, fun h => by omega⟩
        · rw [← hU, show (c % 64).toNat = c.toNat by omega]
        · rw [enc_lt (by omega)]
          show c :: cs = ((c.toNat : Nat) : Int) :: cs
          rw [show ((c.toNat : Nat) : Int) = c by omega]
theorem getI_inv {p r : List Int} {least most v : Int} (hp : Byt p) (h : getI p 0 least most = (v, r, 0)) : p = packI v ++ r ∧ least ≤ v ∧ v ≤ most := by
  unfold getI at h
  rw [if_neg (by simp)] at h
  rcases hq : parse 0 0 p with ⟨f, u, n⟩
  rw [hq] at h
  simp only at h
  by_cases hf : f ≠ 0
  · rw [if_pos hf] at h
    injection h with _ h
    injection h with _ h
    exact absurd h hf
  · rw [if_neg hf] at h
    have hf0 : f = 0 := by omega
    subst hf0
    by_cases hb : unzz u < least ∨ unzz u > most
    · rw [if_pos hb] at h
      injection h with _ h
      injection h with _ h
      exact absurd h (by decide)
    · rw [if_neg hb] at h
      injection h with h1 h2
      injection h2 with h2 _
      obtain ⟨w, m, e1, e2, e3, _⟩ := parse_canon p 0 0 u n hp (by omega) hq
      have hw : u = w := by simpa using e1
      have hm : n = m := by simpa using e2
      subst hw hm
      refine ⟨?_, by omega, by omega⟩
      rw [← h1, ← h2]
      unfold packI
      rw [zz_unzz]
      exact e3
theorem getI_byt {p : List Int} {e least most : Int} (hp : Byt p) : Byt (getI p e least most).2.1 := by
  unfold getI
  split
  · exact hp
  · rcases hq : parse 0 0 p with ⟨f, u, n⟩
    simp only
    split
    · exact hp
    · split
      · exact hp
      · exact hp.drop _
theorem getI_len {p : List Int} {e least most : Int} : (getI p e least most).2.1.length ≤ p.length := by
  unfold getI
  split
  · exact Nat.le_refl _
  · rcases hq : parse 0 0 p with ⟨f, u, n⟩
    simp only
    split
    · exact Nat.le_refl _
    · split
      · exact Nat.le_refl _
      · rw [List.length_drop]; omega
/-- A number that was read without a fault, of a box that had none. -/
theorem getI_ok {p : List Int} {e least most : Int} (hp : Byt p) (h : (getI p e least most).2.2 = 0) : e = 0 ∧ p = packI (getI p e least most).1 ++ (getI p e least most).2.1 ∧ least ≤ (getI p e least most).1 ∧ (getI p e least most).1 ≤ most := by
  by_cases he : e = 0
  · subst he
    exact ⟨rfl, getI_inv (v := (getI p 0 least most).1) (r := (getI p 0 least most).2.1) hp (Prod.ext rfl (Prod.ext rfl h))⟩
  · rw [getI_bad p e least most he] at h
    exact absurd h he
theorem j0_bad {p : List Int} {e : Int} (h : e ≠ 0 ∨ p ≠ []) (a0 a1 a2 a3 a4 a5 a6 a7 : Int) (a8 a9 : Bool) (b0 b1 b2 b3 b4 b5 : Int) : Ev (fun k => order_Decode.j0 k p e a0 a1 a2 a3 a4 a5 a6 a7 a8 a9 b0 b1 b2 b3 b4 b5) (0, 0, 0, 0, 0, 0, 0, 0, false, false, 0, 0, 0, 0, 0, 0, 4) := ⟨1, fun k hk => by
  obtain ⟨k, rfl⟩ : ∃ m, k = m + 1 := ⟨k - 1, by omega⟩
  simp only [order_Decode.j0, end_f, Option.bind_some]
  have hx : ¬ ((if e = 0 then (if (p.length : Int) > 0 then (4 : Int) else 0) else e) = 0) := by
    by_cases h0 : e = 0
    · have hp : p ≠ [] := h.elim (fun h => absurd h0 h) id
      have : 0 < p.length := List.length_pos_iff.mpr hp
      rw [if_pos h0, if_pos (by omega)]; decide
    · rw [if_neg h0]; exact h0
  rw [if_neg hx]⟩
theorem j0_none {a0 a1 a2 a3 a4 a5 a6 a7 : Int} {a8 a9 : Bool} {b0 b1 b2 b3 b4 b5 r : Int} (hr : r ≠ 0) (h : ∀ k, order_Right.f (k + 1) a0 a1 a2 a3 a4 a5 a6 a7 a8 a9 b0 b1 b2 b3 b4 b5 = some r) : Ev (fun k => order_Decode.j0 k [] 0 a0 a1 a2 a3 a4 a5 a6 a7 a8 a9 b0 b1 b2 b3 b4 b5) (0, 0, 0, 0, 0, 0, 0, 0, false, false, 0, 0, 0, 0, 0, 0, 4) := ⟨2, fun k hk => by
  obtain ⟨k, rfl⟩ : ∃ m, k = m + 1 + 1 := ⟨k - 2, by omega⟩
  simp only [order_Decode.j0, end_f, Option.bind_some, if_true, List.length_nil]
  rw [if_pos (by decide), h]
  simp only [Option.bind_some]
  rw [if_neg hr]⟩
theorem j0_ok {a0 a1 a2 a3 a4 a5 a6 a7 : Int} {a8 a9 : Bool} {b0 b1 b2 b3 b4 b5 : Int} {l : List Int} (h : Near a0 a1 a2 a3 a4 a5 a6 a7 a8 a9 b0 b1 b2 b3 b4 b5 l) : Ev (fun k => order_Decode.j0 k [] 0 a0 a1 a2 a3 a4 a5 a6 a7 a8 a9 b0 b1 b2 b3 b4 b5) (a0, a1, a2, a3, a4, a5, a6, a7, a8, a9, b0, b1, b2, b3, b4, b5, 0) := ⟨2, fun k hk => by
  obtain ⟨k, rfl⟩ : ∃ m, k = m + 1 + 1 := ⟨k - 2, by omega⟩
  simp only [order_Decode.j0, end_f, Option.bind_some, if_true, List.length_nil]
  rw [if_pos (by decide), h.right]
  simp only [Option.bind_some]
  rw [if_pos trivial]⟩
/-- The end of each way: a fault, or more bytes; an order that may not be; or one that may. -/
theorem fin_ev {a0 a1 a2 a3 a4 a5 a6 a7 : Int} {a8 a9 : Bool} {b0 b1 b2 b3 b4 b5 : Int} {lst p : List Int} {e : Int} (h : e = 0 → p = [] → Near a0 a1 a2 a3 a4 a5 a6 a7 a8 a9 b0 b1 b2 b3 b4 b5 lst ∨ ∃ r, r ≠ 0 ∧ ∀ k, order_Right.f (k + 1) a0 a1 a2 a3 a4 a5 a6 a7 a8 a9 b0 b1 b2 b3 b4 b5 = some r) :
    Ev (fun k => order_Decode.j0 k p e a0 a1 a2 a3 a4 a5 a6 a7 a8 a9 b0 b1 b2 b3 b4 b5) (0, 0, 0, 0, 0, 0, 0, 0, false, false, 0, 0, 0, 0, 0, 0, 4) ∨ (e = 0 ∧ p = [] ∧ Near a0 a1 a2 a3 a4 a5 a6 a7 a8 a9 b0 b1 b2 b3 b4 b5 lst ∧ Ev (fun k => order_Decode.j0 k p e a0 a1 a2 a3 a4 a5 a6 a7 a8 a9 b0 b1 b2 b3 b4 b5) (a0, a1, a2, a3, a4, a5, a6, a7, a8, a9, b0, b1, b2, b3, b4, b5, 0)) := by
  by_cases hf : e = 0 ∧ p = []
  · obtain ⟨rfl, rfl⟩ := hf
    rcases h rfl rfl with h | ⟨r, hr, h⟩
    · exact .inr ⟨rfl, rfl, h, j0_ok h⟩
    · exact .inl (j0_none hr h)
  · left
    refine j0_bad ?_ _ _ _ _ _ _ _ _ _ _ _ _ _ _ _ _
    by_cases h0 : e = 0
    · exact .inr (fun hp => hf ⟨h0, hp⟩)
    · exact .inl h0
def NoticeOk (a b c d e v : Int) : Prop := (1 ≤ a ∧ a ≤ 5) ∧ keyR b c d e ∧ (0 ≤ v ∧ v ≤ 3)
theorem order_get_ev {q : List Int} (e0 : Int) (hq : Byt q) (hm : q.length ≤ 100000) : ∃ a b c d e v r f, Ev (fun k => order_Get.f k q e0) (a, b, c, d, e, v, r, f) ∧ (f = 0 → e0 = 0 ∧ NoticeOk a b c d e v ∧ q = packI a ++ (packI b ++ (packI c ++ (packI d ++ (packI e ++ (packI v ++ r)))))) := by
  obtain ⟨x0, g0⟩ : ∃ x, x = getI q e0 1 5 := ⟨_, rfl⟩
  obtain ⟨x1, g1⟩ : ∃ x, x = getI x0.2.1 x0.2.2 0 31 := ⟨_, rfl⟩
  obtain ⟨x2, g2⟩ : ∃ x, x = getI x1.2.1 x1.2.2 0 3652058 := ⟨_, rfl⟩
  obtain ⟨x3, g3⟩ : ∃ x, x = getI x2.2.1 x2.2.2 0 100 := ⟨_, rfl⟩
  obtain ⟨x4, g4⟩ : ∃ x, x = getI x3.2.1 x3.2.2 0 1125899906842624 := ⟨_, rfl⟩
  obtain ⟨x5, g5⟩ : ∃ x, x = getI x4.2.1 x4.2.2 0 3 := ⟨_, rfl⟩
  have b0 : Byt x0.2.1 := by rw [g0]; exact getI_byt hq
  have b1 : Byt x1.2.1 := by rw [g1]; exact getI_byt b0
  have b2 : Byt x2.2.1 := by rw [g2]; exact getI_byt b1
  have b3 : Byt x3.2.1 := by rw [g3]; exact getI_byt b2
  have b4 : Byt x4.2.1 := by rw [g4]; exact getI_byt b3
  have l0 : x0.2.1.length ≤ q.length := by rw [g0]; exact getI_len
  have l1 : x1.2.1.length ≤ x0.2.1.length := by rw [g1]; exact getI_len
  have l2 : x2.2.1.length ≤ x1.2.1.length := by rw [g2]; exact getI_len
  have l3 : x3.2.1.length ≤ x2.2.1.length := by rw [g3]; exact getI_len
  have l4 : x4.2.1.length ≤ x3.2.1.length := by rw [g4]; exact getI_len
  have v0 := get_ev hq (by omega) e0 1 5
  have v1 := get_ev b0 (by omega) x0.2.2 0 31
  have v2 := get_ev b1 (by omega) x1.2.2 0 3652058
  have v3 := get_ev b2 (by omega) x2.2.2 0 100
  have v4 := get_ev b3 (by omega) x3.2.2 0 1125899906842624
  have v5 := get_ev b4 (by omega) x4.2.2 0 3
  rw [← g0] at v0
  rw [← g1] at v1
  rw [← g2] at v2
  rw [← g3] at v3
  rw [← g4] at v4
  rw [← g5] at v5
  refine ⟨x0.1 % 256, x1.1, x2.1, x3.1, x4.1, x5.1 % 256, x5.2.1, x5.2.2, ?_, fun hf => ?_⟩
  · unfold order_Get.f
    exact Ev.bind v0 (Ev.bind v1 (Ev.bind v2 (Ev.bind v3 (Ev.bind v4 (Ev.bind v5 (Ev.now _))))))
  · rw [g5] at hf
    obtain ⟨f4, p5, r5, s5⟩ := getI_ok b4 hf
    rw [← g5] at p5 r5 s5
    rw [g4] at f4
    obtain ⟨f3, p4, r4, s4⟩ := getI_ok b3 f4
    rw [← g4] at p4 r4 s4
    rw [g3] at f3
    obtain ⟨f2, p3, r3, s3⟩ := getI_ok b2 f3
    rw [← g3] at p3 r3 s3
    rw [g2] at f2
    obtain ⟨f1, p2, r2, s2⟩ := getI_ok b1 f2
    rw [← g2] at p2 r2 s2
    rw [g1] at f1
    obtain ⟨f0, p1, r1, s1⟩ := getI_ok b0 f1
    rw [← g1] at p1 r1 s1
    rw [g0] at f0
    obtain ⟨z0, p0, r0, s0⟩ := getI_ok hq f0
    rw [← g0] at p0 r0 s0
    rw [show x0.1 % 256 = x0.1 by omega, show x5.1 % 256 = x5.1 by omega]
    refine ⟨z0, ⟨⟨r0, s0⟩, ⟨⟨r1, by omega⟩, ⟨r2, s2⟩, ⟨r3, s3⟩, ⟨r4, s4⟩⟩, ⟨r5, s5⟩⟩, ?_⟩
    rw [← p5, ← p4, ← p3, ← p2, ← p1]
    exact p0
theorem plan_get_ev {q : List Int} (e0 : Int) (hq : Byt q) (hm : q.length ≤ 100000) : ∃ (p0 p1 p2 p3 : Int) (g l : Bool) (r : List Int) (f : Int), Ev (fun k => plan_Get.f k q e0) (p0, p1, p2, p3, g, l, r, f) ∧
    (f = 0 → e0 = 0 ∧ ((0 ≤ p0 ∧ p0 ≤ 1073741824) ∧ (0 ≤ p1 ∧ p1 ≤ 3) ∧ (1 ≤ p2 ∧ p2 ≤ 1000) ∧ (0 ≤ p3 ∧ p3 ≤ 1000)) ∧ q = packI p0 ++ (packI p1 ++ (packI p2 ++ (packI p3 ++ (packI (if g then 1 else 0) ++ (packI (if l then 1 else 0) ++ r)))))) := by
  obtain ⟨x0, g0⟩ : ∃ x, x = getI q e0 0 1073741824 := ⟨_, rfl⟩
  obtain ⟨x1, g1⟩ : ∃ x, x = getI x0.2.1 x0.2.2 0 3 := ⟨_, rfl⟩
  obtain ⟨x2, g2⟩ : ∃ x, x = getI x1.2.1 x1.2.2 1 1000 := ⟨_, rfl⟩
  obtain ⟨x3, g3⟩ : ∃ x, x = getI x2.2.1 x2.2.2 0 1000 := ⟨_, rfl⟩
  obtain ⟨x4, g4⟩ : ∃ x, x = getI x3.2.1 x3.2.2 0 1 := ⟨_, rfl⟩
  obtain ⟨x5, g5⟩ : ∃ x, x = getI x4.2.1 x4.2.2 0 1 := ⟨_, rfl⟩
  have b0 : Byt x0.2.1 := by rw [g0]; exact getI_byt hq
  have b1 : Byt x1.2.1 := by rw [g1]; exact getI_byt b0
  have b2 : Byt x2.2.1 := by rw [g2]; exact getI_byt b1
  have b3 : Byt x3.2.1 := by rw [g3]; exact getI_byt b2
  have b4 : Byt x4.2.1 := by rw [g4]; exact getI_byt b3
  have l0 : x0.2.1.length ≤ q.length := by rw [g0]; exact getI_len
  have l1 : x1.2.1.length ≤ x0.2.1.length := by rw [g1]; exact getI_len
  have l2 : x2.2.1.length ≤ x1.2.1.length := by rw [g2]; exact getI_len
  have l3 : x3.2.1.length ≤ x2.2.1.length := by rw [g3]; exact getI_len
  have l4 : x4.2.1.length ≤ x3.2.1.length := by rw [g4]; exact getI_len
  have v0 := get_ev hq (by omega) e0 0 1073741824
  have v1 := get_ev b0 (by omega) x0.2.2 0 3
  have v2 := get_ev b1 (by omega) x1.2.2 1 1000
  have v3 := get_ev b2 (by omega) x2.2.2 0 1000
  have v4 := get_ev b3 (by omega) x3.2.2 0 1
  have v5 := get_ev b4 (by omega) x4.2.2 0 1
  rw [← g0] at v0
  rw [← g1] at v1
  rw [← g2] at v2
  rw [← g3] at v3
  rw [← g4] at v4
  rw [← g5] at v5
  have w4 : Ev (fun k => pack_Box_GetFlag.f k x3.2.1 x3.2.2) (x4.1 == 1, x4.2.1, x4.2.2) := by unfold pack_Box_GetFlag.f; exact Ev.bind v4 (Ev.now _)
  have w5 : Ev (fun k => pack_Box_GetFlag.f k x4.2.1 x4.2.2) (x5.1 == 1, x5.2.1, x5.2.2) := by unfold pack_Box_GetFlag.f; exact Ev.bind v5 (Ev.now _)
  by_cases hf : x5.2.2 = 0
  · refine ⟨x0.1, x1.1 % 256, x2.1, x3.1, x4.1 == 1, x5.1 == 1, x5.2.1, x5.2.2, ?_, fun _ => ?_⟩
    · unfold plan_Get.f
      refine Ev.bind v0 (Ev.bind v1 (Ev.bind v2 (Ev.bind v3 (Ev.bind w4 (Ev.bind w5 ?_)))))
      simp only [pack_Box_Fault.f, Option.bind_some]
      rw [if_pos hf]
      exact Ev.now _
    · rw [g5] at hf
      obtain ⟨f4, p5, r5, s5⟩ := getI_ok b4 hf
      rw [← g5] at p5 r5 s5
      rw [g4] at f4
      obtain ⟨f3, p4, r4, s4⟩ := getI_ok b3 f4
      rw [← g4] at p4 r4 s4
      rw [g3] at f3
      obtain ⟨f2, p3, r3, s3⟩ := getI_ok b2 f3
      rw [← g3] at p3 r3 s3
      rw [g2] at f2
      obtain ⟨f1, p2, r2, s2⟩ := getI_ok b1 f2
      rw [← g2] at p2 r2 s2
      rw [g1] at f1
      obtain ⟨f0, p1, r1, s1⟩ := getI_ok b0 f1
      rw [← g1] at p1 r1 s1
      rw [g0] at f0
      obtain ⟨z0, p0, r0, s0⟩ := getI_ok hq f0
      rw [← g0] at p0 r0 s0
      have q4 : (if (x4.1 == 1) = true then (1 : Int) else 0) = x4.1 := by
        by_cases h : x4.1 = 1
        · simp [h]
        · simp [h]; omega
      have q5 : (if (x5.1 == 1) = true then (1 : Int) else 0) = x5.1 := by
        by_cases h : x5.1 = 1
        · simp [h]
        · simp [h]; omega
      rw [q4, q5, show x1.1 % 256 = x1.1 by omega]
      refine ⟨z0, ⟨⟨r0, s0⟩, ⟨r1, s1⟩, ⟨r2, s2⟩, ⟨r3, s3⟩⟩, ?_⟩
      rw [← p5, ← p4, ← p3, ← p2, ← p1]
      exact p0
  · refine ⟨0, 0, 0, 0, false, false, x5.2.1, x5.2.2, ?_, fun h => absurd h hf⟩
    unfold plan_Get.f
    refine Ev.bind v0 (Ev.bind v1 (Ev.bind v2 (Ev.bind v3 (Ev.bind w4 (Ev.bind w5 ?_)))))
    simp only [pack_Box_Fault.f, Option.bind_some]
    rw [if_neg hf]
    exact Ev.now _
theorem subs_f (a : Int) : order_subs.f a = some (decide (2 ≤ a ∧ a ≤ 8)) := by
  unfold order_subs.f
  by_cases h : a ≥ 2
  · rw [if_pos h]; congr 1; exact decide_eq_decide.mpr (by omega)
  · rw [if_neg h]; congr 1; exact (decide_eq_false (by omega)).symm
theorem plans_f (a : Int) : order_plans.f a = some (decide (a = 2 ∨ a = 3)) := by
  unfold order_plans.f
  by_cases h : a = 2
  · rw [if_pos h]; simp [h]
  · rw [if_neg h]; congr 1; by_cases h3 : a = 3 <;> simp [h, h3]
theorem decode_any {l : List Int} (hl : Byt l) (hm : l.length ≤ 1000) : Ev (fun k => order_Decode.f k l) (0, 0, 0, 0, 0, 0, 0, 0, false, false, 0, 0, 0, 0, 0, 0, 4) ∨ ∃ (a0 a1 a2 a3 a4 a5 a6 a7 : Int) (a8 a9 : Bool) (b0 b1 b2 b3 b4 b5 : Int) (lst : List Int), Near a0 a1 a2 a3 a4 a5 a6 a7 a8 a9 b0 b1 b2 b3 b4 b5 lst ∧ l = packsI lst ∧ Ev (fun k => order_Decode.f k l) (a0, a1, a2, a3, a4, a5, a6, a7, a8, a9, b0, b1, b2, b3, b4, b5, 0) := by
  obtain ⟨x0, g0⟩ : ∃ x, x = getI l 0 1 10 := ⟨_, rfl⟩
  have bb : Byt x0.2.1 := by rw [g0]; exact getI_byt hl
  have ll : x0.2.1.length ≤ l.length := by rw [g0]; exact getI_len
  have v0 := get_ev hl (by omega) 0 1 10
  rw [← g0] at v0
  have ok0 : x0.2.2 = 0 → l = packI x0.1 ++ x0.2.1 ∧ 1 ≤ x0.1 ∧ x0.1 ≤ 10 := by
    intro h
    rw [g0] at h ⊢
    exact (getI_ok hl h).2
  obtain ⟨kd, hkd⟩ : ∃ kd, kd = x0.1 % 256 := ⟨_, rfl⟩
  have hk0 : x0.2.2 = 0 → x0.1 = kd := fun h => by have := ok0 h; omega
  by_cases c1 : 2 ≤ kd ∧ kd ≤ 8
  · obtain ⟨x1, g1⟩ : ∃ x, x = getI x0.2.1 x0.2.2 0 31 := ⟨_, rfl⟩
    have b1 : Byt x1.2.1 := by rw [g1]; exact getI_byt bb
    have l1 : x1.2.1.length ≤ x0.2.1.length := by rw [g1]; exact getI_len
    have v1 := get_ev bb (by omega) x0.2.2 0 31
    rw [← g1] at v1
    have ok1 : x1.2.2 = 0 → x0.2.2 = 0 ∧ x0.2.1 = packI x1.1 ++ x1.2.1 ∧ 0 ≤ x1.1 ∧ x1.1 ≤ 31 := by
      intro h
      rw [g1] at h ⊢
      exact getI_ok bb h
    by_cases c2 : kd = 2 ∨ kd = 3
    · obtain ⟨x2, g2⟩ : ∃ x, x = getI x1.2.1 x1.2.2 0 7 := ⟨_, rfl⟩
      have v2 := get_ev b1 (by omega) x1.2.2 0 7
      rw [← g2] at v2
      have ok2 : x2.2.2 = 0 → x1.2.2 = 0 ∧ x1.2.1 = packI x2.1 ++ x2.2.1 ∧ 0 ≤ x2.1 ∧ x2.1 ≤ 7 := by
        intro h
        rw [g2] at h ⊢
        exact getI_ok b1 h
      have step : ∀ r, Ev (fun k => order_Decode.j0 k x2.2.1 x2.2.2 kd x1.1 x2.1 0 0 0 0 0 false false 0 0 0 0 0 0) r → Ev (fun k => order_Decode.f k l) r := fun r hr => by
        unfold order_Decode.f
        simp only [of_f l (by omega), Option.bind_some]
        refine Ev.bind v0 ?_
        simp only [← hkd, subs_f, Option.bind_some, decide_eq_true c1, if_true]
        refine Ev.bind v1 ?_
        simp only [plans_f, Option.bind_some, decide_eq_true c2, if_true]
        exact Ev.bind v2 hr
      rcases fin_ev (lst := [kd, x1.1, x2.1]) (p := x2.2.1) (e := x2.2.2) (a0 := kd) (a1 := x1.1) (a2 := x2.1) (a3 := 0) (a4 := 0) (a5 := 0) (a6 := 0) (a7 := 0) (a8 := false) (a9 := false) (b0 := 0) (b1 := 0) (b2 := 0) (b3 := 0) (b4 := 0) (b5 := 0) (fun he _ => .inl (Near.with2 ⟨c2, by have := ok1 (ok2 he).1; omega, by have := ok2 he; omega⟩)) with h | ⟨he, hp, hn, h⟩
      · exact .inl (step _ h)
      · refine .inr ⟨_, _, _, _, _, _, _, _, _, _, _, _, _, _, _, _, _, hn, ?_, step _ h⟩
        obtain ⟨z1, q2, _⟩ := ok2 he
        obtain ⟨z0, q1, _⟩ := ok1 z1
        rw [(ok0 z0).1, hk0 z0, q1, q2, hp]
        simp [packsI]
    · have step : ∀ r, Ev (fun k => order_Decode.j0 k x1.2.1 x1.2.2 kd x1.1 0 0 0 0 0 0 false false 0 0 0 0 0 0) r → Ev (fun k => order_Decode.f k l) r := fun r hr => by
        unfold order_Decode.f
        simp only [of_f l (by omega), Option.bind_some]
        refine Ev.bind v0 ?_
        simp only [← hkd, subs_f, Option.bind_some, decide_eq_true c1, if_true]
        refine Ev.bind v1 ?_
        simp only [plans_f, Option.bind_some, decide_eq_false c2, Bool.false_eq_true, if_false]
        exact hr
      rcases fin_ev (lst := [kd, x1.1]) (p := x1.2.1) (e := x1.2.2) (a0 := kd) (a1 := x1.1) (a2 := 0) (a3 := 0) (a4 := 0) (a5 := 0) (a6 := 0) (a7 := 0) (a8 := false) (a9 := false) (b0 := 0) (b1 := 0) (b2 := 0) (b3 := 0) (b4 := 0) (b5 := 0) (fun he _ => .inl (Near.with1 ⟨by omega, by have := ok1 he; omega⟩)) with h | ⟨he, hp, hn, h⟩
      · exact .inl (step _ h)
      · refine .inr ⟨_, _, _, _, _, _, _, _, _, _, _, _, _, _, _, _, _, hn, ?_, step _ h⟩
        obtain ⟨z0, q1, _⟩ := ok1 he
        rw [(ok0 z0).1, hk0 z0, q1, hp]
        simp [packsI]
  · by_cases c3 : kd = 1
    · obtain ⟨p0, p1, p2, p3, g, f, r, e, hg, ok1⟩ := plan_get_ev (q := x0.2.1) x0.2.2 bb (by omega)
      have step : ∀ z, Ev (fun k => order_Decode.j0 k r e kd 0 0 0 p0 p1 p2 p3 g f 0 0 0 0 0 0) z → Ev (fun k => order_Decode.f k l) z := fun z hz => by
        unfold order_Decode.f
        simp only [of_f l (by omega), Option.bind_some]
        refine Ev.bind v0 ?_
        simp only [← hkd, subs_f, Option.bind_some, decide_eq_false c1, Bool.false_eq_true, if_false]
        simp only [if_pos c3]
        exact Ev.bind hg hz
      rcases fin_ev (lst := [1, p0, p1, p2, p3, if g then 1 else 0, if f then 1 else 0]) (p := r) (e := e) (a0 := kd) (a1 := 0) (a2 := 0) (a3 := 0) (a4 := p0) (a5 := p1) (a6 := p2) (a7 := p3) (a8 := g) (a9 := f) (b0 := 0) (b1 := 0) (b2 := 0) (b3 := 0) (b4 := 0) (b5 := 0) (fun he _ => .inl (by rw [c3]; exact Near.define g f (ok1 he).2.1)) with h | ⟨he, hp, hn, h⟩
      · exact .inl (step _ h)
      · refine .inr ⟨_, _, _, _, _, _, _, _, _, _, _, _, _, _, _, _, _, hn, ?_, step _ h⟩
        obtain ⟨z0, _, q1⟩ := ok1 he
        rw [(ok0 z0).1, hk0 z0, q1, hp, c3]
        simp [packsI]
    · by_cases c4 : kd = 9
      · obtain ⟨x1, g1⟩ : ∃ x, x = getI x0.2.1 x0.2.2 1 60 := ⟨_, rfl⟩
        have v1 := get_ev bb (by omega) x0.2.2 1 60
        rw [← g1] at v1
        have ok1 : x1.2.2 = 0 → x0.2.2 = 0 ∧ x0.2.1 = packI x1.1 ++ x1.2.1 ∧ 1 ≤ x1.1 ∧ x1.1 ≤ 60 := by
          intro h
          rw [g1] at h ⊢
          exact getI_ok bb h
        have step : ∀ r, Ev (fun k => order_Decode.j0 k x1.2.1 x1.2.2 kd 0 0 x1.1 0 0 0 0 false false 0 0 0 0 0 0) r → Ev (fun k => order_Decode.f k l) r := fun r hr => by
          unfold order_Decode.f
          simp only [of_f l (by omega), Option.bind_some]
          refine Ev.bind v0 ?_
          simp only [← hkd, subs_f, Option.bind_some, decide_eq_false c1, Bool.false_eq_true, if_false]
          simp only [if_neg c3, if_pos c4]
          exact Ev.bind v1 hr
        rcases fin_ev (lst := [9, x1.1]) (p := x1.2.1) (e := x1.2.2) (a0 := kd) (a1 := 0) (a2 := 0) (a3 := x1.1) (a4 := 0) (a5 := 0) (a6 := 0) (a7 := 0) (a8 := false) (a9 := false) (b0 := 0) (b1 := 0) (b2 := 0) (b3 := 0) (b4 := 0) (b5 := 0) (fun he _ => .inl (by rw [c4]; exact Near.pass (ok1 he).2.2)) with h | ⟨he, hp, hn, h⟩
        · exact .inl (step _ h)
        · refine .inr ⟨_, _, _, _, _, _, _, _, _, _, _, _, _, _, _, _, _, hn, ?_, step _ h⟩
          obtain ⟨z0, q1, _⟩ := ok1 he
          rw [(ok0 z0).1, hk0 z0, q1, hp, c4]
          simp [packsI]
      · by_cases c5 : kd = 10
        · obtain ⟨a, b, c, d, e, v, r, f, hg, ok1⟩ := order_get_ev (q := x0.2.1) x0.2.2 bb (by omega)
          have step : ∀ z, Ev (fun k => order_Decode.j0 k r f kd 0 0 0 0 0 0 0 false false a b c d e v) z → Ev (fun k => order_Decode.f k l) z := fun z hz => by
            unfold order_Decode.f
            simp only [of_f l (by omega), Option.bind_some]
            refine Ev.bind v0 ?_
            simp only [← hkd, subs_f, Option.bind_some, decide_eq_false c1, Bool.false_eq_true, if_false]
            simp only [if_neg c3, if_neg c4, if_pos c5]
            exact Ev.bind hg hz
          rcases fin_ev (lst := [10, a, b, c, d, e, v]) (p := r) (e := f) (a0 := kd) (a1 := 0) (a2 := 0) (a3 := 0) (a4 := 0) (a5 := 0) (a6 := 0) (a7 := 0) (a8 := false) (a9 := false) (b0 := a) (b1 := b) (b2 := c) (b3 := d) (b4 := e) (b5 := v) (fun he _ => by
            rw [c5]
            obtain ⟨_, hno, _⟩ := ok1 he
            by_cases hv : 1 ≤ v
            · exact .inl (Near.hear ⟨hno.1, ⟨hv, hno.2.2.2⟩, hno.2.1⟩)
            · refine .inr ⟨1, by decide, fun k => ?_⟩
              have hnr : ¬ noticeR a b c d e v := fun h => hv h.2.1.1
              simp [order_Right.f, order_subs.f, noticeR_f, hnr]) with h | ⟨he, hp, hn, h⟩
          · exact .inl (step _ h)
          · refine .inr ⟨_, _, _, _, _, _, _, _, _, _, _, _, _, _, _, _, _, hn, ?_, step _ h⟩
            obtain ⟨z0, _, q1⟩ := ok1 he
            rw [(ok0 z0).1, hk0 z0, q1, hp, c5]
            simp [packsI]
        · left
          unfold order_Decode.f
          simp only [of_f l (by omega), Option.bind_some]
          refine Ev.bind v0 ?_
          simp only [← hkd, subs_f, Option.bind_some, decide_eq_false c1, Bool.false_eq_true, if_false, if_neg c3, if_neg c4, if_neg c5]
          refine j0_bad (.inl (fun h => ?_)) _ _ _ _ _ _ _ _ _ _ _ _ _ _ _ _
          have h1 := hk0 h
          have h2 := ok0 h
          omega
end Go.Proofs.Ytlihgjonmliodaa.Pure
