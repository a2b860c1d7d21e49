/- A number that was put is taken again, whatever stands behind it; of a part of its bytes none is. Each number is one of 64 bits. -/
import Derived.Test.YtinmndkhipfccaaPAx8
import Derived.Test.YtinmndkhipfccaaPAx9
import Derived.Test.YtinmndkhipfccaaPureGet
namespace Go.Proofs.Ytinmndkhipfccaa.Pure
open Go.RowKit Go.Proofs.Ytinmndkhipfccaa.PA Go.Proofs.YtinmndkhipfccaaW.PrintWords Go.Proofs.YtinmndkhipfccaaW.PrintLast Go.Proofs.YtinmndkhipfccaaW.PrintMore

theorem parse_enc : ∀ (u i a : Nat) (r : List Int), i ≤ 10 → u * 64 ^ i < 18446744073709551616 → (i > 0 → u > 0) → parse i a (enc u ++ r) = (0, a + u * 64 ^ i, i + (enc u).length) := by
  intro u
  induction u using Nat.strongRecOn with
  | _ u ih =>
    intro i a r hi hu h0
    by_cases h1 : u < 64
    · rw [enc_lt h1]
      simp only [List.singleton_append, parse, List.length_singleton]
      have h16 : i = 10 → u < 16 := fun h => by subst h; simp only [Nat.reducePow] at hu; omega
      rw [if_neg (by rintro (h | ⟨h, h'⟩ | ⟨h, h'⟩) <;> omega), if_neg (by omega), show ((u : Int) % 64).toNat = u by omega]
    · rw [enc_ge h1]
      simp only [List.cons_append, parse, List.length_cons]
      have hi9 : i ≠ 10 := fun h => by subst h; simp only [Nat.reducePow] at hu; omega
      have hm : (u / 64) * 64 ^ (i + 1) = (u / 64 * 64) * 64 ^ i := by rw [Nat.pow_succ, Nat.mul_assoc, Nat.mul_comm (64 ^ i) 64]
      have hs : u * 64 ^ i = (u % 64) * 64 ^ i + (u / 64 * 64) * 64 ^ i := by rw [← Nat.add_mul]; congr 1; omega
      rw [if_neg (by rintro (h | ⟨h, h'⟩ | ⟨h, h'⟩) <;> omega), if_pos (by omega), show ((((u % 64 + 64 : Nat) : Int)) % 64).toNat = u % 64 by omega, ih (u / 64) (by omega) (i + 1) _ r (by omega) (by omega) (by omega), hm]
      simp only [Prod.mk.injEq, true_and]
      omega
theorem parse_cut : ∀ (u i a m : Nat), m < (enc u).length → i ≤ 10 → u * 64 ^ i < 18446744073709551616 → (i > 0 → u > 0) → parse i a ((enc u).take m) = (5, 0, 0) := by
  intro u
  induction u using Nat.strongRecOn with
  | _ u ih =>
    intro i a m hm hi hu h0
    cases m with
    | zero => simp [parse]
    | succ m =>
      by_cases h1 : u < 64
      · rw [enc_lt h1] at hm
        simp at hm
      · rw [enc_ge h1] at hm ⊢
        simp only [List.length_cons] at hm
        simp only [List.take_succ_cons, parse]
        have hi9 : i ≠ 10 := fun h => by subst h; simp only [Nat.reducePow] at hu; omega
        have hmm : (u / 64) * 64 ^ (i + 1) = (u / 64 * 64) * 64 ^ i := by rw [Nat.pow_succ, Nat.mul_assoc, Nat.mul_comm (64 ^ i) 64]
        have hs : u * 64 ^ i = (u % 64) * 64 ^ i + (u / 64 * 64) * 64 ^ i := by rw [← Nat.add_mul]; congr 1; omega
        rw [if_neg (by rintro (h | ⟨h, h'⟩ | ⟨h, h'⟩) <;> omega), if_pos (by omega), ih (u / 64) (by omega) (i + 1) _ m (by omega) (by omega) (by omega) (by omega)]
theorem parse_pack {n : Int} (h : I64 n) (r : List Int) : parse 0 0 (packI n ++ r) = (0, zz n, (packI n).length) := by
  have := parse_enc (zz n) 0 0 r (by omega) (by have := zz_lt h; omega) (by omega)
  simpa [packI] using this
theorem getI_pack {n : Int} (h : I64 n) (r : List Int) {least most : Int} (h1 : least ≤ n) (h2 : n ≤ most) : getI (packI n ++ r) 0 least most = (n, r, 0) := by
  unfold getI
  rw [if_neg (by simp), parse_pack h]
  simp only [ne_eq, not_true_eq_false, if_false, unzz_zz]
  rw [if_neg (by omega)]
  simp
theorem getI_cut {n : Int} (h : I64 n) {m : Nat} (hm : m < (packI n).length) (least most : Int) : getI ((packI n).take m) 0 least most = (0, (packI n).take m, 5) := by
  unfold getI
  have := parse_cut (zz n) 0 0 m hm (by omega) (by have := zz_lt h; omega) (by omega)
  rw [if_neg (by simp)]
  unfold packI
  rw [this]
  simp
theorem pack_apart : ∀ (a b : List Int), (∀ x ∈ a, I64 x) → (∀ x ∈ b, I64 x) → ∀ r s : List Int, a.length = b.length → packsI a ++ r = packsI b ++ s → a = b ∧ r = s
  | [], [], _, _, r, s, _, h => ⟨rfl, by simpa [packsI] using h⟩
  | [], _ :: _, _, _, _, _, hl, _ => by simp at hl
  | _ :: _, [], _, _, _, _, hl, _ => by simp at hl
  | x :: a, y :: b, ha, hb, r, s, hl, h => by
    rw [packsI_cons, packsI_cons, List.append_assoc, List.append_assoc] at h
    have hx := ha x (by simp)
    have hy := hb y (by simp)
    have h1 := parse_pack hx (packsI a ++ r)
    rw [h, parse_pack hy] at h1
    simp only [Prod.mk.injEq, true_and] at h1
    obtain rfl := zz_inj h1.1
    have h2 := List.append_cancel_left h
    obtain ⟨h3, h4⟩ := pack_apart a b (fun z hz => ha z (by simp [hz])) (fun z hz => hb z (by simp [hz])) r s (by simpa using hl) h2
    exact ⟨by rw [h3], h4⟩
theorem end_f (p : List Int) (e : Int) : pack_Box_End.f p e = some (if e = 0 then (if (p.length : Int) > 0 then 4 else 0) else e, p, e) := by
  unfold pack_Box_End.f pack_Box_Fault.f
  by_cases h : e = 0
  · rw [if_pos h, if_pos h]
    split <;> simp_all
  · rw [if_neg h, if_neg h]
    rfl
theorem i64s {l : List Int} (h : ∀ x ∈ l, (Lit.int .i64 x).wf = true) : ∀ x ∈ l, I64 x := fun x hx => i64_of (h x hx)

end Go.Proofs.Ytinmndkhipfccaa.Pure
