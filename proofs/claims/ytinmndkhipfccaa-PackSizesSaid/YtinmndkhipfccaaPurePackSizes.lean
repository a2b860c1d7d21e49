/- Near 0 numbers take few bytes; of more the more, eleven at most. No condition. -/
import Derived.Test.YtinmndkhipfccaaPureGet
import Derived.Test.YtinmndkhipfccaaPureBack
import Derived.Test.YtinmndkhipfccaaPAx6
namespace Go.Proofs.Ytinmndkhipfccaa.Pure
open Go.RowKit Go.Proofs.Ytinmndkhipfccaa.PA Go.Proofs.YtinmndkhipfccaaW.PrintWords Go.Proofs.YtinmndkhipfccaaW.PrintLast Go.Proofs.YtinmndkhipfccaaW.PrintMore

theorem enc_mono : ∀ (v u : Nat), u ≤ v → (enc u).length ≤ (enc v).length := by
  intro v
  induction v using Nat.strongRecOn with
  | _ v ih =>
    intro u h
    by_cases h1 : u < 64
    · rw [enc_lt h1]; exact enc_pos v
    · rw [enc_ge h1, enc_ge (show ¬ v < 64 by omega)]
      have := ih (v / 64) (by omega) (u / 64) (by omega)
      simp only [List.length_cons]
      omega
theorem enc_one (u : Nat) : (u ≥ 64) ↔ (enc u).length > 1 := by
  by_cases h1 : u < 64
  · rw [enc_lt h1]; simp; omega
  · rw [enc_ge h1]
    have := enc_pos (u / 64)
    simp only [List.length_cons]
    omega
theorem PackSizes : paybooklaw05_PackSizes.Pure := by
  intro a b ha hb
  have ha := i64_of ha
  have hb := i64_of hb
  have la := packI_len ha
  have lb := packI_len hb
  have pa := packI_pos a
  have ea : packsI [a] = packI a := by simp [packsI]
  have eb : packsI [b] = packI b := by simp [packsI]
  refine Ev.rounds ?_
  unfold paybooklaw05_PackSizes.f
  simp only [new_f, Option.bind_some]
  refine Ev.bind (put_ev (by simpa using ha) [] 0 (by simp)) ?_
  dsimp only
  rw [List.nil_append, ea, done_f _ _ (by omega)]
  dsimp only [Option.bind_some]
  refine Ev.bind (put_ev (by simpa using hb) [] 0 (by simp)) ?_
  dsimp only
  rw [List.nil_append, eb, done_f _ _ (by omega)]
  dsimp only [Option.bind_some]
  refine Ev.bind awake_ev ?_
  rw [zz_bits ha, zz_bits hb]
  have h1 := enc_one (zz a)
  have hq : ((decide ((zz a : Int) ≥ 64)) == (decide (((packI a).length : Int) > 1))) = true := by
    rw [beq_iff_eq, decide_eq_decide]
    unfold packI
    omega
  have fin : Ev (fun k => (paybookref05_Pack.f k a).bind fun t => some ((strOfNums (packI a)).toList == (strOfNums t).toList)) true := by
    refine Ev.bind (pack_ev ha) ?_
    rw [beq_self_eq_true]
    exact Ev.now _
  simp only [if_true]
  refine Ev.congr (fun k => ?_) fin
  rw [if_pos (by omega), if_pos (by omega)]
  by_cases h2 : ((zz a : Int)) > (zz b : Int)
  · rw [if_pos h2, if_pos hq]
  · rw [if_neg h2, if_pos (by have := enc_mono (zz b) (zz a) (by omega); unfold packI; omega), if_pos hq]

end Go.Proofs.Ytinmndkhipfccaa.Pure
