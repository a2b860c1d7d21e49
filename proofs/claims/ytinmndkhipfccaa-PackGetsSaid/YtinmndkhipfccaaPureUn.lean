/- The reference takes the same number off some bytes, by trying all. Each byte lies from 0 to 255. -/
import Derived.Test.YtinmndkhipfccaaPureGet
import Derived.Test.YtinmndkhipfccaaPureBack
namespace Go.Proofs.Ytinmndkhipfccaa.Pure
open Go.RowKit Go.Proofs.Ytinmndkhipfccaa.PA Go.Proofs.YtinmndkhipfccaaW.PrintWords Go.Proofs.YtinmndkhipfccaaW.PrintLast Go.Proofs.YtinmndkhipfccaaW.PrintMore

theorem wrap_id (n : Int) (h0 : -9223372036854775808 ≤ n) (h1 : n < 9223372036854775808) : wrap64 n = n := by unfold wrap64; omega
theorem neg_half (U : Nat) (h : U < 18446744073709551616) : wrap64 (wrap64 (-(wrap64 ((U / 2 : Nat) : Int))) - 1) = -((U / 2 : Nat) : Int) - 1 := by
  have hV : U / 2 < 9223372036854775808 := by omega
  generalize U / 2 = V at hV
  rw [wrap_id (V : Int) (by omega) (by omega), wrap_id (-(V : Int)) (by omega) (by omega), wrap_id (-(V : Int) - 1) (by omega) (by omega)]
def unI : Int × Nat × Nat → Int × Int × Int
  | (f, U, n) => if f ≠ 0 then (0, 0, f) else (unzz U, (n : Int), 0)
theorem unpack_l0 {p : List Int} (hp : Byt p) (hm : p.length ≤ 9223372036854775807) : ∀ (d i : Nat), i + d = p.length → ∀ u : Nat, u < 64 ^ i → i ≤ 10 →
    Ev (fun k => paybookref05_Unpack.l0 k p (u : Int) ((64 ^ i : Nat) : Int) (i : Int)) (unI (parse i u (p.drop i))) := by
  intro d
  induction d with
  | zero =>
    intro i hi u hu hi2
    refine Ev.step (f := fun _ => some (0, 0, 5)) (fun k => ?_) ?_
    · simp only [paybookref05_Unpack.l0]
      rw [if_neg (by omega)]
    · rw [List.drop_eq_nil_of_le (by omega)]
      exact Ev.now _
  | succ d ih =>
    intro i hi u hu hi2
    have hlt : i < p.length := by omega
    have hb := hp _ (List.getElem_mem hlt)
    have hr := rd_nat p i hlt
    have hdr : p.drop i = p[i] :: p.drop (i + 1) := List.drop_eq_getElem_cons hlt
    generalize p[i] = c at *
    have hw : IntKind.u64.wrap (Int.tmod c 64) = (((c % 64).toNat : Nat) : Int) := by rw [Int.tmod_eq_emod_of_nonneg hb.1, u64w]; omega
    have hp2 := pow_lt i hi2
    rw [hdr]
    simp only [parse]
    by_cases hc : c ≥ 128 ∨ (i = 10 ∧ c ≥ 16) ∨ (i > 0 ∧ c = 0)
    · rw [if_pos hc]
      have J2 : ∀ (g : Int) (l : Bool), Ev (fun k => paybookref05_Unpack.j2 k p (u : Int) ((64 ^ i : Nat) : Int) (i : Int) g l true) (0, 0, 4) := fun g l => Ev.step (fun k => by simp only [paybookref05_Unpack.j2, if_true]) (Ev.now _)
      have J1 : ∀ (g : Int) (l : Bool), Ev (fun k => paybookref05_Unpack.j1 k p (u : Int) ((64 ^ i : Nat) : Int) (i : Int) g l true) (0, 0, 4) := fun g l => Ev.step (fun k => by simp only [paybookref05_Unpack.j1, if_true]) (Ev.now _)
      show Ev _ (0, 0, 4)
      by_cases h1 : c > 127
      · refine Ev.step (f := fun _ => some (0, 0, 4)) (fun k => ?_) (Ev.now _)
        simp only [paybookref05_Unpack.l0]
        rw [if_pos (by omega), if_pos (by omega), hr, if_pos h1]
      · by_cases h2 : i = 10
        · by_cases h3 : c ≥ 16
          · by_cases h4 : (((c % 64).toNat : Nat) : Int) ≥ 16
            · refine Ev.step (fun k => ?_) (J1 (((c % 64).toNat : Nat) : Int) (decide (c < 64)))
              simp only [paybookref05_Unpack.l0]
              rw [if_pos (by omega), if_pos (by omega), hr, if_neg h1, if_pos (by omega), hw, if_pos h4]
            · have h5 : (!(decide (c < 64))) = true := by simp; omega
              refine Ev.step (fun k => ?_) (J1 (((c % 64).toNat : Nat) : Int) (decide (c < 64)))
              simp only [paybookref05_Unpack.l0]
              rw [if_pos (by omega), if_pos (by omega), hr, if_neg h1, if_pos (by omega), hw, if_neg h4, h5]
          · have h0 : c = 0 := by omega
            subst h0
            refine Ev.step (fun k => ?_) (Ev.step (fun k => ?_) (J2 0 true) (g := fun k => paybookref05_Unpack.j1 k p (u : Int) ((64 ^ i : Nat) : Int) (i : Int) 0 true false))
            · simp only [paybookref05_Unpack.l0]
              rw [if_pos (by omega), if_pos (by omega), hr, if_neg h1, if_pos (by omega), hw]
              simp
            · simp only [paybookref05_Unpack.j1, Bool.false_eq_true, if_false, if_true]
              congr 1
              simp; omega
        · have h0 : c = 0 ∧ i > 0 := by omega
          obtain ⟨rfl, hi0⟩ := h0
          refine Ev.step (fun k => ?_) (Ev.step (fun k => ?_) (J2 0 true) (g := fun k => paybookref05_Unpack.j1 k p (u : Int) ((64 ^ i : Nat) : Int) (i : Int) 0 true false))
          · simp only [paybookref05_Unpack.l0]
            rw [if_pos (by omega), if_pos (by omega), hr, if_neg h1, if_neg (by omega), hw]
            simp
          · simp only [paybookref05_Unpack.j1, Bool.false_eq_true, if_false, if_true]
            congr 1
            simp; omega
    · rw [if_neg hc]
      have hc1 : ¬ (i = 10 ∧ c ≥ 16) := fun h => hc (.inr (.inl h))
      have hU := u64_lt i u c hi2 hu hb.1 hc1
      have hadd : IntKind.u64.wrap ((u : Int) + IntKind.u64.wrap ((((c % 64).toNat : Nat) : Int) * ((64 ^ i : Nat) : Int))) = ((u + (c % 64).toNat * 64 ^ i : Nat) : Int) := by
        rw [show (((c % 64).toNat : Nat) : Int) * ((64 ^ i : Nat) : Int) = (((c % 64).toNat * 64 ^ i : Nat) : Int) by simp, u64n _ (by omega), show (u : Int) + (((c % 64).toNat * 64 ^ i : Nat) : Int) = ((u + (c % 64).toNat * 64 ^ i : Nat) : Int) by simp, u64n _ hU]
      have J2 : Ev (fun k => paybookref05_Unpack.j2 k p (u : Int) ((64 ^ i : Nat) : Int) (i : Int) (((c % 64).toNat : Nat) : Int) (decide (c < 64)) false) (unI (if c ≥ 64 then parse (i + 1) (u + (c % 64).toNat * 64 ^ i) (p.drop (i + 1)) else (0, u + (c % 64).toNat * 64 ^ i, i + 1))) := by
        by_cases h64 : c ≥ 64
        · rw [if_pos h64]
          have hi3 : i ≠ 10 := fun h => hc1 ⟨h, by omega⟩
          have hp9 : 64 ^ i ≤ 64 ^ 9 := Nat.pow_le_pow_right (by decide) (by omega)
          simp only [Nat.reducePow] at hp9
          refine Ev.step (fun k => ?_) (ih (i + 1) (by omega) _ (next_lt i u c hu) (by omega))
          simp only [paybookref05_Unpack.j2, Bool.false_eq_true, if_false]
          rw [if_neg (by simp; omega), hadd, wrap_one i (by omega), show ((64 ^ i : Nat) : Int) * 64 = ((64 ^ (i + 1) : Nat) : Int) by rw [Nat.pow_succ]; simp, u64n _ (by rw [Nat.pow_succ]; omega)]
        · rw [if_neg h64]
          generalize u + (c % 64).toNat * 64 ^ i = U at *
          refine Ev.step (f := fun _ => some (unzz U, ((i + 1 : Nat) : Int), 0)) (fun k => ?_) (Ev.now _)
          simp only [paybookref05_Unpack.j2, Bool.false_eq_true, if_false]
          rw [if_pos (by simp; omega), hadd, wrap_one i (by omega), Int.tmod_eq_emod_of_nonneg (by omega), Int.tdiv_eq_ediv_of_nonneg (by omega), show (U : Int) / 2 = ((U / 2 : Nat) : Int) by omega, u64n _ (by omega)]
          unfold unzz
          by_cases h0 : U % 2 = 0
          · rw [if_neg (by omega), if_pos h0, show wrap64 ((U / 2 : Nat) : Int) = ((U / 2 : Nat) : Int) by unfold wrap64; omega]
          · rw [if_pos (by omega), if_neg h0]
            rw [neg_half U hU]
      have J1 : Ev (fun k => paybookref05_Unpack.j1 k p (u : Int) ((64 ^ i : Nat) : Int) (i : Int) (((c % 64).toNat : Nat) : Int) (decide (c < 64)) false) (unI (if c ≥ 64 then parse (i + 1) (u + (c % 64).toNat * 64 ^ i) (p.drop (i + 1)) else (0, u + (c % 64).toNat * 64 ^ i, i + 1))) := by
        refine Ev.step (fun k => ?_) J2
        simp only [paybookref05_Unpack.j1, Bool.false_eq_true, if_false]
        by_cases h1 : decide (c < 64) = true
        · rw [if_pos h1]
          by_cases h2 : (((c % 64).toNat : Nat) : Int) = 0
          · rw [if_pos h2]
            congr 1
            have := of_decide_eq_true h1
            simp; omega
          · rw [if_neg h2]
        · rw [if_neg h1]
      refine Ev.step (fun k => ?_) J1
      simp only [paybookref05_Unpack.l0]
      rw [if_pos (by omega), if_pos (by omega), hr, if_neg (by omega), hw]
      by_cases h2 : i = 10
      · rw [if_pos (by omega), if_neg (by omega), show (!(decide (c < 64))) = false by simp; omega]
      · rw [if_neg (by omega)]
theorem unpack_ev {p : List Int} (hp : Byt p) (hm : p.length ≤ 9223372036854775807) : Ev (fun k => paybookref05_Unpack.f k p) (unI (parse 0 0 p)) := by
  have := unpack_l0 hp hm p.length 0 (by omega) 0 (by simp) (by omega)
  simpa [paybookref05_Unpack.f] using this

end Go.Proofs.Ytinmndkhipfccaa.Pure
