/- What opening any bytes comes to, at the program's text and at the reference's; the contracts of both. -/
import Derived.Test.YtifefhdinnechaaDoorPureTurn
import Derived.Test.YtifefhdinnechaaDoorPureSealSums
import Derived.Test.YtifefhdinnechaaDoorPAx2
import Derived.Test.YtifefhdinnechaaDoorPAx4
import Derived.Test.YtifefhdinnechaaDoorPAx5
import Derived.Test.YtifefhdinnechaaDoorPAx7
import Derived.Test.YtifefhdinnechaaDoorPAx10
import Derived.Test.YtifefhdinnechaaDoorPAx15
import Derived.Test.YtifefhdinnechaaDoorPAx16
namespace Go.Proofs.YtifefhdinnechaaDoor.Pure
set_option linter.unusedSimpArgs false
open Go.RowKit Go.Proofs.YtifefhdinnechaaDoor.PA Go.Proofs.YtifefhdinnechaaDoorW.PrintWords Go.Proofs.YtifefhdinnechaaDoorW.PrintLast Go.Proofs.YtifefhdinnechaaDoorW.PrintMore

theorem refFour_f (n : Int) (h0 : 0 ≤ n) (_h1 : n < 4294967296) : paybookref05_Four.f n = some (wordI n) := by
  unfold paybookref05_Four.f wordI
  rw [Int.tdiv_eq_ediv_of_nonneg h0, Int.tdiv_eq_ediv_of_nonneg h0, Int.tdiv_eq_ediv_of_nonneg h0, Int.tmod_eq_emod_of_nonneg h0]
  simp only [Option.some.injEq, List.cons.injEq, and_true]
  omega
theorem refClose_f {p : List Int} (hp : Bytes p) (hm : p.length ≤ 1048576) (a b : Int) (ha : 0 ≤ a ∧ a < 4294967296) (hb : 0 ≤ b ∧ b < 4294967296) (k : Nat) (hk : 8 * p.length + 200 < k) : paybookref05_Close.f k a b p = some (closeI a b p) := by
  unfold paybookref05_Close.f
  have hw : ∀ n, (wordI n).length = 4 := fun _ => rfl
  have hs := ref_f (headI a b p.length ++ p) ((headI_bytes a b _).append hp) (by rw [List.length_append, headI_length]; omega) k (by rw [List.length_append, headI_length]; omega)
  have hr := sumI_range (headI a b p.length ++ p)
  rw [show ((p.length : Int)) % 4294967296 = (p.length : Int) by omega, refFour_f _ (by omega) (by omega), refFour_f a ha.1 ha.2, refFour_f b hb.1 hb.2]
  simp only [Option.bind_some, hw, List.nil_append, List.length_append, List.length_nil]
  rw [if_pos (by omega), if_pos (by omega), if_pos (by omega), if_pos (by omega), if_pos (by omega)]
  unfold headI at hs
  rw [hs]
  simp only [Option.bind_some]
  unfold headI at hr
  rw [refFour_f _ hr.1 hr.2]
  simp only [Option.bind_some, hw]
  rw [if_pos (by omega), if_pos (by omega)]
  rfl
theorem age_f {l : List Int} (hl : Bytes l) (hm : l.length ≤ 140737488351000) (b : Int) (k : Nat) (hk : l.length + 20 < k) :
    seal_Age.f k b l = some (if (l.length : Int) < 16 then (0, 5) else if (openI (readI (l.drop 4)) b l).2.2 = 0 then (readI (l.drop 4), 0) else (0, (openI (readI (l.drop 4)) b l).2.2)) := by
  unfold seal_Age.f
  by_cases h : (l.length : Int) < 16
  · rw [if_pos h, if_pos h]
  · rw [if_neg h, if_neg h, if_pos (by omega), read_f (hl.drop 4) (by rw [List.length_drop]; omega) k (by omega)]
    simp only [Option.bind_some]
    rw [open_f hl hm _ b k hk]
    simp only [Option.bind_some]
    split <;> rfl
def refOpenI (l : List Int) : Int × Int × Int × Int :=
  if (l.length : Int) < 16 then (0, 0, 0, 5) else if readI l > 1048576 then (0, 0, 0, 6) else if (l.length : Int) < 16 + readI l then (0, 0, 0, 5)
  else if sumI (l.take 12 ++ bodyI l) = readI (l.drop 12) then (readI l, readI (l.drop 4), readI (l.drop 8), 0) else (0, 0, 0, 4)
theorem number_f {l : List Int} (hl : Bytes l) (h : 4 ≤ l.length) : paybookref05_number.f l = some (readI l) := by
  obtain ⟨a, b, c, d, r, rfl⟩ := four h
  have ha := hl a (by simp)
  have hb := hl b (by simp)
  have hc := hl c (by simp)
  have hd := hl d (by simp)
  unfold paybookref05_number.f
  simp only [List.length_cons] at *
  rw [if_pos (by omega), if_pos (by omega), if_pos (by omega), if_pos (by omega)]
  have r0 : rd (a :: b :: c :: d :: r) 0 = a := rfl
  have r1 : rd (a :: b :: c :: d :: r) 1 = b := rfl
  have r2 : rd (a :: b :: c :: d :: r) 2 = c := rfl
  have r3 : rd (a :: b :: c :: d :: r) 3 = d := rfl
  rw [r0, r1, r2, r3]
  simp only [readI, List.getD_cons_zero, List.getD_cons_succ, Option.some.injEq]
  omega
theorem refOpen_f {l : List Int} (hl : Bytes l) (hm : l.length ≤ 140737488351000) (k : Nat) (hk : 8 * l.length + 200 < k) : paybookref05_Open.f k l = some (refOpenI l) := by
  unfold paybookref05_Open.f refOpenI
  by_cases h1 : (l.length : Int) < 16
  · rw [if_pos h1, if_pos h1]
  · rw [if_neg h1, if_neg h1, number_f hl (by omega)]
    have hr := readI_range hl (by omega)
    simp only [Option.bind_some]
    rw [wrap_of (readI l) (by omega) (by omega)]
    by_cases h2 : readI l > 1048576
    · rw [if_pos h2, if_pos h2]
    · rw [if_neg h2, if_neg h2, wrap_of (16 + readI l) (by omega) (by omega)]
      by_cases h3 : (l.length : Int) < 16 + readI l
      · rw [if_pos h3, if_pos h3]
      · rw [if_neg h3, if_neg h3, if_pos (by omega)]
        have hb : bodyI l = (l.take (16 + readI l).toNat).drop 16 := rfl
        have hbl : (bodyI l).length = (readI l).toNat := by rw [hb, List.length_drop, List.length_take]; omega
        have hbB : Bytes (bodyI l) := (hl.take _).drop _
        simp only [Option.bind_some, List.nil_append, List.length_nil, ← hb]
        rw [if_pos (by rw [List.length_take]; omega), if_pos (by omega), if_pos (by omega), if_pos (by rw [List.length_take, hbl]; omega)]
        rw [ref_f (l.take 12 ++ bodyI l) ((hl.take _).append hbB) (by rw [List.length_append, List.length_take, hbl]; omega) k (by rw [List.length_append, List.length_take, hbl]; omega), number_f (hl.drop 12) (by rw [List.length_drop]; omega)]
        simp only [Option.bind_some]
        by_cases h4 : sumI (l.take 12 ++ bodyI l) = readI (l.drop 12)
        · rw [if_pos h4, if_pos h4, if_pos (by omega), number_f (hl.drop 4) (by rw [List.length_drop]; omega)]
          simp only [Option.bind_some]
          rw [if_pos (by omega), number_f (hl.drop 8) (by rw [List.length_drop]; omega)]
          rfl
        · rw [if_neg h4, if_neg h4]
def ageI (b : Int) (l : List Int) : Int × Int := if (l.length : Int) < 16 then (0, 5) else if (openI (readI (l.drop 4)) b l).2.2 = 0 then (readI (l.drop 4), 0) else (0, (openI (readI (l.drop 4)) b l).2.2)
/-- Either there is a fault that is no matter of ages and places, the same at both, or all depends on these. -/
theorem open_cases {l : List Int} (hl : Bytes l) (a b : Int) :
    (∃ e : Int, (e = 4 ∨ e = 5 ∨ e = 6) ∧ refOpenI l = (0, 0, 0, e) ∧ openI a b l = ([], 0, e) ∧ ageI b l = (0, e)) ∨
    (∃ n x y : Int, 0 ≤ n ∧ n ≤ 1048576 ∧ 16 + n ≤ l.length ∧ refOpenI l = (n, x, y, 0) ∧
      ((x = a ∧ y = b ∧ openI a b l = ((l.take (16 + n).toNat).drop 16, 16 + n, 0) ∧ ageI b l = (x, 0)) ∨ (x ≠ a ∧ y = b ∧ openI a b l = ([], 0, 10) ∧ ageI b l = (x, 0)) ∨ (y ≠ b ∧ openI a b l = ([], 0, 10) ∧ ageI b l = (0, 10)))) := by
  unfold ageI refOpenI openI
  by_cases h1 : (l.length : Int) < 16
  · left; exact ⟨5, by simp, by simp [h1], by simp [h1], by simp [h1]⟩
  · have hr := readI_range hl (by omega)
    by_cases h2 : readI l > 1048576
    · left; exact ⟨6, by simp, by simp [h1, h2], by simp [h1, h2], by simp [h1, h2]⟩
    · by_cases h3 : (l.length : Int) < 16 + readI l
      · left; exact ⟨5, by simp, by simp [h1, h2, h3], by simp [h1, h2, h3], by simp [h1, h2, h3]⟩
      · by_cases h4 : readI (l.drop 12) = sumI (l.take 12 ++ bodyI l)
        · right
          refine ⟨readI l, readI (l.drop 4), readI (l.drop 8), hr.1, by omega, by omega, by rw [if_neg h1, if_neg h2, if_neg h3, if_pos h4.symm], ?_⟩
          simp only [if_neg h1, if_neg h2, if_neg h3, if_pos h4, if_true]
          by_cases h6 : readI (l.drop 8) = b
          · by_cases h5 : readI (l.drop 4) = a
            · left; exact ⟨h5, h6, by rw [if_pos h5, if_pos h6]; rfl, by rw [if_pos h6]; rfl⟩
            · right; left; exact ⟨h5, h6, by rw [if_neg h5], by rw [if_pos h6]; rfl⟩
          · right; right
            refine ⟨h6, ?_, by rw [if_neg h6]; rfl⟩
            by_cases h5 : readI (l.drop 4) = a
            · rw [if_pos h5, if_neg h6]
            · rw [if_neg h5]
        · left
          exact ⟨4, by simp, by simp [h1, h2, h3, Ne.symm h4], by simp [h1, h2, h3, h4], by simp [h1, h2, h3, h4]⟩
end Go.Proofs.YtifefhdinnechaaDoor.Pure
