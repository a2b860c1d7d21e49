/- The sum of any bytes is the reference's. No condition. -/
import Derived.Test.YtifefhdinnechaaDoorPAx14
import Derived.Test.YtifefhdinnechaaDoorPAx2
import Derived.Test.YtifefhdinnechaaDoorPAx3
import Derived.Test.YtifefhdinnechaaDoorPureCrc
namespace Go.Proofs.YtifefhdinnechaaDoor.Pure
open Go.RowKit Go.Proofs.YtifefhdinnechaaDoor.PA Go.Proofs.YtifefhdinnechaaDoorW.PrintWords Go.Proofs.YtifefhdinnechaaDoorW.PrintLast Go.Proofs.YtifefhdinnechaaDoorW.PrintMore

theorem ref_step (l : List Int) (hm : l.length ≤ 140737488351232) (i j b r : Nat) (hi : i < l.length) (hj : j < 8) (hb : b < 256) (hlb : l[i] = (b : Int)) (hr : r < 4294967296) (k : Nat) :
    paybookref05_Sum.l0 (k + 1) l (r : Int) ((8 * i + j : Nat) : Int) = paybookref05_Sum.l0 k l (bit1 r (b / 2 ^ j % 2) : Int) ((8 * i + j + 1 : Nat) : Int) := by
  simp only [paybookref05_Sum.l0]
  have e0 : Int.tdiv ((8 * i + j : Nat) : Int) 8 = (i : Int) := by rw [Int.tdiv_eq_ediv_of_nonneg (by omega)]; omega
  have e1 : Int.tmod ((8 * i + j : Nat) : Int) 8 = (j : Int) := by rw [Int.tmod_eq_emod_of_nonneg (by omega)]; omega
  have e2 : Int.tmod (r : Int) 2 = ((r % 2 : Nat) : Int) := by rw [Int.tmod_eq_emod_of_nonneg (by omega)]; omega
  have e3 : (Int.tdiv (r : Int) 2) % 4294967296 = ((r / 2 : Nat) : Int) := by rw [Int.tdiv_eq_ediv_of_nonneg (by omega)]; omega
  rw [e0, e1, e2, e3, wrap_of (8 * (l.length : Int)) (by omega) (by omega), wrap_of (i : Int) (by omega) (by omega), wrap_of (((8 * i + j : Nat) : Int) + 1) (by omega) (by omega)]
  rw [if_pos (by omega), if_pos (by omega), if_pos (by omega), if_pos (by omega), rd_nat l i hi, hlb]
  have e4 : (shr .u8 (b : Int) (j : Int)) % 4294967296 % 2 = ((b / 2 ^ j % 2 : Nat) : Int) := by
    unfold shr
    rw [show min (j : Int).toNat IntKind.u8.bits = j from by simp [IntKind.bits]; omega]
    have : ((b : Int) / 2 ^ j) = ((b / 2 ^ j : Nat) : Int) := by simp
    rw [this]
    have h2 : b / 2 ^ j < 4294967296 := Nat.lt_of_le_of_lt (Nat.div_le_self _ _) (by omega)
    omega
  rw [e4]
  have ex : Go.bits .xor .u32 ((r / 2 : Nat) : Int) 3988292384 = (((r / 2) ^^^ 3988292384 : Nat) : Int) := u32_xor_nat (r / 2) 3988292384 (by omega) (by decide)
  unfold bit1
  by_cases hc : r % 2 = b / 2 ^ j % 2
  · rw [if_pos (by omega), if_pos hc]
    rfl
  · rw [if_neg (by omega), if_neg hc, ex]
    rfl
theorem ref_byte (l : List Int) (hm : l.length ≤ 140737488351232) (i b r : Nat) (hi : i < l.length) (hb : b < 256) (hlb : l[i] = (b : Int)) (hr : r < 4294967296) (k : Nat) :
    paybookref05_Sum.l0 (k + 8) l (r : Int) ((8 * i : Nat) : Int) = paybookref05_Sum.l0 k l (byteT r b : Int) ((8 * (i + 1) : Nat) : Int) := by
  have h0 := ref_step l hm i 0 b r hi (by decide) hb hlb hr (k + 7)
  have l0 := bit1_lt r (b / 2 ^ 0 % 2) hr
  have h1 := ref_step l hm i 1 b _ hi (by decide) hb hlb l0 (k + 6)
  have l1 := bit1_lt _ (b / 2 ^ 1 % 2) l0
  have h2 := ref_step l hm i 2 b _ hi (by decide) hb hlb l1 (k + 5)
  have l2 := bit1_lt _ (b / 2 ^ 2 % 2) l1
  have h3 := ref_step l hm i 3 b _ hi (by decide) hb hlb l2 (k + 4)
  have l3 := bit1_lt _ (b / 2 ^ 3 % 2) l2
  have h4 := ref_step l hm i 4 b _ hi (by decide) hb hlb l3 (k + 3)
  have l4 := bit1_lt _ (b / 2 ^ 4 % 2) l3
  have h5 := ref_step l hm i 5 b _ hi (by decide) hb hlb l4 (k + 2)
  have l5 := bit1_lt _ (b / 2 ^ 5 % 2) l4
  have h6 := ref_step l hm i 6 b _ hi (by decide) hb hlb l5 (k + 1)
  have l6 := bit1_lt _ (b / 2 ^ 6 % 2) l5
  have h7 := ref_step l hm i 7 b _ hi (by decide) hb hlb l6 k
  simp only [Nat.add_zero, Nat.add_assoc, Nat.reduceAdd] at h0 h1 h2 h3 h4 h5 h6 h7
  rw [show 8 * (i + 1) = 8 * i + 8 by omega]
  have e := bits8_eq r b hb
  unfold bits8 at e
  simp only [Nat.reducePow, Nat.div_one] at h0 h1 h2 h3 h4 h5 h6 h7
  rw [h0, h1, h2, h3, h4, h5, h6, h7, e]
theorem ref_l0 (l : List Int) (hl : Bytes l) (hm : l.length ≤ 140737488351232) (d : Nat) : ∀ (k i r : Nat), i + d = l.length → 8 * d < k → r < 4294967296 →
    paybookref05_Sum.l0 k l (r : Int) ((8 * i : Nat) : Int) = some (4294967295 - (crc r (l.drop i) : Int)) := by
  induction d with
  | zero =>
    intro k i r hi hk hr
    obtain ⟨k, rfl⟩ : ∃ m, k = m + 1 := ⟨k - 1, by omega⟩
    simp only [paybookref05_Sum.l0]
    rw [wrap_of (8 * (l.length : Int)) (by omega) (by omega), if_neg (by omega), List.drop_eq_nil_of_le (by omega)]
    show some ((4294967295 - (r : Int)) % 4294967296) = some (4294967295 - (r : Int))
    congr 1
    omega
  | succ d ih =>
    intro k i r hi hk hr
    obtain ⟨k, rfl⟩ : ∃ m, k = m + 8 := ⟨k - 8, by omega⟩
    have hlt : i < l.length := by omega
    obtain ⟨b, hb, hlb⟩ := byte_of hl hlt
    rw [ref_byte l hm i b r hlt hb hlb hr, ih k (i + 1) _ (by omega) (by omega) (byteT_lt r b hr), List.drop_eq_getElem_cons hlt, hlb]
    rfl
theorem ref_f (l : List Int) (hl : Bytes l) (hm : l.length ≤ 140737488351232) (k : Nat) (hk : 8 * l.length < k) : paybookref05_Sum.f k l = some (sumI l) := by
  have h := ref_l0 l hl hm l.length k 0 4294967295 (by omega) hk (by decide)
  unfold paybookref05_Sum.f
  exact h
theorem bytes_of {l : List Int} (h : ∀ x ∈ l, (Lit.int .u8 x).wf = true) : Bytes l := fun x hx => by have := bounds_u8 (h x hx); omega
theorem awake_f (k : Nat) (hk : 9 < k) : paybooklaw06_awake.f k = some true := by
  unfold paybooklaw06_awake.f
  rw [sum_f [49, 50, 51, 52, 53, 54, 55, 56, 57] (by unfold Bytes; decide) (by decide) k hk]
  kernel_rfl

theorem SealSums : paybooklaw06_SealSums.Pure := by
  intro l h1 h2 h3
  have hl := bytes_of h3
  refine ⟨8 * l.length + 20, ?_⟩
  unfold paybooklaw06_SealSums.f
  rw [awake_f _ (by omega)]
  simp only [Option.bind_some, if_true]
  rw [show 8 * l.length + 20 = (8 * l.length + 19) + 1 by omega]
  simp only [paybooklaw06_SealSums.j0]
  rw [awake_f _ (by omega), sum_f l hl (by omega) _ (by omega), ref_f l hl (by omega) _ (by omega)]
  simp
end Go.Proofs.YtifefhdinnechaaDoor.Pure
