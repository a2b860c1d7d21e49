/- Any bytes under a seal, and back, with others behind. No condition. -/
import Derived.Test.YtifefhdinnechaaDoorPureTurn
import Derived.Test.YtifefhdinnechaaDoorPureSealSums
import Derived.Test.YtifefhdinnechaaDoorPAx15
import Derived.Test.YtifefhdinnechaaDoorPAx17
import Derived.Test.YtifefhdinnechaaDoorPAx18
import Derived.Test.YtifefhdinnechaaDoorPAx5
import Derived.Test.YtifefhdinnechaaDoorPAx6
namespace Go.Proofs.YtifefhdinnechaaDoor.Pure
open Go.RowKit Go.Proofs.YtifefhdinnechaaDoor.PA Go.Proofs.YtifefhdinnechaaDoorW.PrintWords Go.Proofs.YtifefhdinnechaaDoorW.PrintLast Go.Proofs.YtifefhdinnechaaDoorW.PrintMore

theorem refFour_f (n : Int) (h0 : 0 ≤ n) (_h1 : n < 4294967296) : paybookref05_Four.f n = some (wordI n) := by
  unfold paybookref05_Four.f wordI
  rw [Int.tdiv_eq_ediv_of_nonneg h0, Int.tdiv_eq_ediv_of_nonneg h0, Int.tdiv_eq_ediv_of_nonneg h0, Int.tmod_eq_emod_of_nonneg h0]
  simp only [Option.some.injEq, List.cons.injEq, and_true]
  omega
theorem refClose_f {p : List Int} (hp : Bytes p) (hm : p.length ≤ 1048576) (a b : Int) (ha : 0 ≤ a ∧ a < 4294967296) (hb : 0 ≤ b ∧ b < 4294967296) (k : Nat) (hk : 8 * p.length + 200 < k) : paybookref05_Close.f k a b p = some (closeI a b p) := by
  unfold paybookref05_Close.f
  have hw : ∀ n, (wordI n).length = 4 := fun _ => rfl
  have hs := ref_f (headI a b p.length ++ p) ((headI_bytes a b _).append hp) (by rw [List.length_append, headI_length]; omega) k (by rw [List.length_append, headI_length]; omega)
  have hr := sumI_range (headI a b p.length ++ p)
  rw [show ((p.length : Int)) % 4294967296 = (p.length : Int) by omega, refFour_f _ (by omega) (by omega), refFour_f a ha.1 ha.2, refFour_f b hb.1 hb.2]
  simp only [Option.bind_some, hw, List.nil_append, List.length_append, List.length_nil]
  rw [if_pos (by omega), if_pos (by omega), if_pos (by omega), if_pos (by omega), if_pos (by omega)]
  unfold headI at hs
  rw [hs]
  simp only [Option.bind_some]
  unfold headI at hr
  rw [refFour_f _ hr.1 hr.2]
  simp only [Option.bind_some, hw]
  rw [if_pos (by omega), if_pos (by omega)]
  rfl
theorem age_f {l : List Int} (hl : Bytes l) (hm : l.length ≤ 140737488351000) (b : Int) (k : Nat) (hk : l.length + 20 < k) :
    seal_Age.f k b l = some (if (l.length : Int) < 16 then (0, 5) else if (openI (readI (l.drop 4)) b l).2.2 = 0 then (readI (l.drop 4), 0) else (0, (openI (readI (l.drop 4)) b l).2.2)) := by
  unfold seal_Age.f
  by_cases h : (l.length : Int) < 16
  · rw [if_pos h, if_pos h]
  · rw [if_neg h, if_neg h, if_pos (by omega), read_f (hl.drop 4) (by rw [List.length_drop]; omega) k (by omega)]
    simp only [Option.bind_some]
    rw [open_f hl hm _ b k hk]
    simp only [Option.bind_some]
    split <;> rfl

theorem SealCloses : paybooklaw06_SealCloses.Pure := by
  intro a b p q ha hb hp0 hp1 hpw hq0 hq1 hqw
  have hp := bytes_of hpw
  have hq := bytes_of hqw
  have ha := bounds_u32 ha
  have hb := bounds_u32 hb
  suffices main : ∀ K, 3900 ≤ K → paybooklaw06_SealCloses.f (K + 1) a b p q = some true from ⟨3900 + 1, main 3900 (Nat.le_refl _)⟩
  intro K hK
  unfold paybooklaw06_SealCloses.f
  rw [awake_f _ (by omega)]
  simp only [Option.bind_some, if_true]
  have far : paybooklaw06_SealCloses.j0 (K + 1) a b p q true = some true := by
    simp only [paybooklaw06_SealCloses.j0, if_true]
    rw [awake_f _ (by omega)]
    rfl
  by_cases h1 : (p.length : Int) > 300
  · rw [if_pos h1, far]
  · rw [if_neg h1]
    by_cases h2 : (q.length : Int) > 50
    · rw [decide_eq_true h2, far]
    · rw [decide_eq_false h2]
      simp only [paybooklaw06_SealCloses.j0]
      have hcl := closeI_length a b p
      have hB := closeI_bytes (a := a) (b := b) hp
      have ho := open_close (a := a) (b := b) (p := p) q (by omega) ha.1 (by omega) hb.1 (by omega)
      have ho2 := open_close (a := a) (b := b) (p := p) [] (by omega) ha.1 (by omega) hb.1 (by omega)
      rw [List.append_nil] at ho2
      have hr4 := close_read4 (a := a) (b := b) (p := p) ha.1 (by omega)
      rw [if_neg (by decide), close_f hp (by omega) a b _ (by omega)]
      simp only [Option.bind_some, List.nil_append, List.length_nil, hcl]
      rw [if_pos (by omega), if_pos (by omega), open_f (hB.append hq) (by rw [List.length_append, hcl]; omega) a b _ (by rw [List.length_append, hcl]; omega), age_f hB (by rw [hcl]; omega) b _ (by rw [hcl]; omega), refClose_f hp (by omega) a b (by omega) (by omega) _ (by omega), ho, hr4, ho2]
      generalize closeI a b p = c at *
      generalize strOfNums = S
      dsimp only [Option.bind_some]
      have hm : mx (p.length : Int) 0 = (p.length : Int) := by unfold mx; split <;> omega
      unfold seal_Size.f
      rw [if_pos rfl, hm, wrap_of (16 + (p.length : Int)) (by omega) (by omega)]
      dsimp only [Option.bind_some]
      rw [if_pos (by omega), if_pos rfl, if_pos (by omega), if_pos rfl, if_pos rfl, if_neg (show ¬ ((c.length : Int) < 16) by omega)]
      dsimp only
      rw [if_pos rfl, beq_self_eq_true]
end Go.Proofs.YtifefhdinnechaaDoor.Pure
