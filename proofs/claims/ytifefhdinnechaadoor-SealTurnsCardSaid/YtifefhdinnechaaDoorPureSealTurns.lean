/- A seal of which one byte is another one, or that is cut, isn't right, but where the length tells of fewer bytes. No condition. -/
import Derived.Test.YtifefhdinnechaaDoorPureTurn
import Derived.Test.YtifefhdinnechaaDoorPureSealSums
import Derived.Test.YtifefhdinnechaaDoorPAx9
namespace Go.Proofs.YtifefhdinnechaaDoor.Pure
open Go.RowKit Go.Proofs.YtifefhdinnechaaDoor.PA Go.Proofs.YtifefhdinnechaaDoorW.PrintWords Go.Proofs.YtifefhdinnechaaDoorW.PrintLast Go.Proofs.YtifefhdinnechaaDoorW.PrintMore

theorem u8_xor_ne (x t : Int) (hx0 : 0 ≤ x) (hx : x < 256) (ht0 : 0 < t) (ht : t < 256) : 0 ≤ Go.bits .xor .u8 x t ∧ Go.bits .xor .u8 x t < 256 ∧ Go.bits .xor .u8 x t ≠ x := by
  rw [u8_xor x t hx0 hx (by omega) ht]
  have h1 : x.toNat ^^^ t.toNat < 2 ^ 8 := Nat.xor_lt_two_pow (by omega) (by omega)
  refine ⟨by omega, by omega, fun h => ?_⟩
  have h2 : x.toNat ^^^ t.toNat = x.toNat ^^^ 0 := by rw [Nat.xor_zero]; omega
  have := xor_cancel h2
  omega

theorem SealTurns : paybooklaw06_SealTurns.Pure := by
  intro a b p at_ t cut ha hb hm1 hm2 hpw hat ht hcut
  have hp := bytes_of hpw
  have ha := bounds_u32 ha
  have hb := bounds_u32 hb
  have ht := bounds_u8 ht
  have hat : 0 ≤ at_ ∧ at_ ≤ 65535 := bounds_u16 hat
  have hcut : 0 ≤ cut ∧ cut ≤ 65535 := bounds_u16 hcut
  refine ⟨1000, ?_⟩
  unfold paybooklaw06_SealTurns.f
  rw [awake_f _ (by omega)]
  simp only [Option.bind_some, if_true]
  have hj : ∀ x, (x = true ∨ (p.length ≤ 200 ∧ t ≠ 0)) → paybooklaw06_SealTurns.j0 1000 a b p at_ t cut x = some true := by
    intro x hx
    simp only [paybooklaw06_SealTurns.j0]
    by_cases hxt : x = true
    · rw [if_pos hxt, awake_f _ (by omega)]
      rfl
    · rw [if_neg hxt]
      obtain ⟨hl, ht0⟩ := hx.resolve_left hxt
      have hcl := closeI_length a b p
      have hB := closeI_bytes (a := a) (b := b) hp
      rw [close_f hp (by omega) a b _ (by omega)]
      simp only [Option.bind_some, List.nil_append, List.length_nil, hcl]
      rw [if_neg (by omega), if_pos (by omega), wrap_of at_ (by omega) (by omega), wrap_of cut (by omega) (by omega)]
      have hk0 := Int.tmod_nonneg ((16 + p.length : Nat) : Int) hat.1
      have hk1 := Int.tmod_lt_of_pos at_ (show (0 : Int) < ((16 + p.length : Nat) : Int) by omega)
      have hc0 := Int.tmod_nonneg ((16 + p.length : Nat) : Int) hcut.1
      have hc1 := Int.tmod_lt_of_pos cut (show (0 : Int) < ((16 + p.length : Nat) : Int) by omega)
      generalize Int.tmod at_ ((16 + p.length : Nat) : Int) = k at hk0 hk1
      generalize Int.tmod cut ((16 + p.length : Nat) : Int) = m at hc0 hc1
      rw [if_pos hk0, if_pos hk1]
      obtain ⟨K, rfl⟩ := Int.eq_ofNat_of_zero_le hk0
      obtain ⟨M, rfl⟩ := Int.eq_ofNat_of_zero_le hc0
      have hKl : K < (closeI a b p).length := by omega
      rw [rd_nat _ K hKl]
      have hby := hB _ (List.getElem_mem hKl)
      have hv := u8_xor_ne _ t hby.1 hby.2 (by omega) (by omega)
      generalize hvd : Go.bits .xor .u8 (closeI a b p)[K] t = v at hv
      have hsB : Bytes ((closeI a b p).set K v) := by
        intro y hy
        rcases List.mem_or_eq_of_mem_set hy with h | h
        · exact hB y h
        · subst h; omega
      simp only [Int.toNat_natCast]
      rw [open_f hsB (by rw [List.length_set]; omega) a b _ (by rw [List.length_set]; omega)]
      simp only [Option.bind_some]
      rw [if_pos (by omega), if_pos (by omega), open_f (hB.take M) (by rw [List.length_take]; omega) a b _ (by rw [List.length_take]; omega)]
      rw [open_cut (by omega) (by omega)]
      simp only [Option.bind_some]
      have ho := open_turned (a := a) (b := b) hp (by omega) (k := K) (by omega) hv.1 hv.2.1 hv.2.2 a b
      by_cases h0 : (openI a b ((closeI a b p).set K v)).2.2 = 0
      · rw [if_pos h0]
        obtain ⟨h5, h6⟩ := ho.resolve_left (fun h => h h0)
        rw [if_pos (by omega), if_pos (by omega)]
        rfl
      · rw [if_neg h0]
        rfl
  by_cases h : (p.length : Int) > 200
  · rw [if_pos h]; exact hj _ (.inl rfl)
  · rw [if_neg h]
    by_cases h0 : t = 0
    · exact hj _ (.inl (by rw [h0]; rfl))
    · exact hj _ (.inr ⟨by omega, h0⟩)
end Go.Proofs.YtifefhdinnechaaDoor.Pure
