/- The table-driven sum of some bytes and the bitwise one are the same number, and what that number does when one byte is turned. Each byte lies from 0 to 255. -/
import Derived.Test.YtifefhdinnechaaDoorPAx0
import Derived.Test.YtifefhdinnechaaDoorPAx1
import Derived.OpenShut
import Derived.Laws.BitsAllLaws
namespace Go.Proofs.YtifefhdinnechaaDoor.Pure
open Go.RowKit Go.Proofs.YtifefhdinnechaaDoor.PA Go.Proofs.YtifefhdinnechaaDoorW.PrintWords Go.Proofs.YtifefhdinnechaaDoorW.PrintLast

/-! ### natural numbers -/
def tabN : List Nat := [0, 498536548, 997073096, 651767980, 1994146192, 1802195444, 1303535960, 1342533948, 3988292384, 4027552580, 3604390888, 3412177804, 2607071920, 2262029012, 2685067896, 3183342108]
def tab (i : Nat) : Nat := tabN.getD i 0
def nib (r v : Nat) : Nat := r / 16 ^^^ tab ((r ^^^ v) % 16)
def byteT (r b : Nat) : Nat := nib (nib r b) (b / 16)
def bit1 (r b : Nat) : Nat := if r % 2 = b then r / 2 else (r / 2) ^^^ 3988292384
theorem xor16 (a b : Nat) : (a ^^^ b) % 16 = (a % 16) ^^^ (b % 16) := by
  have := Nat.xor_mod_two_pow (a := a) (b := b) (n := 4)
  simpa using this
theorem nib_mod (r v : Nat) : nib r (v % 16) = nib r v := by
  unfold nib
  rw [xor16, xor16 r v, Nat.mod_mod]
theorem tab_lt (i : Nat) : tab i < 4294967296 := by
  unfold tab
  by_cases h : i < 16
  · have : i = 0 ∨ i = 1 ∨ i = 2 ∨ i = 3 ∨ i = 4 ∨ i = 5 ∨ i = 6 ∨ i = 7 ∨ i = 8 ∨ i = 9 ∨ i = 10 ∨ i = 11 ∨ i = 12 ∨ i = 13 ∨ i = 14 ∨ i = 15 := by omega
    rcases this with rfl | rfl | rfl | rfl | rfl | rfl | rfl | rfl | rfl | rfl | rfl | rfl | rfl | rfl | rfl | rfl <;> decide
  · have : tabN.length = 16 := rfl
    simp [List.getD, List.getElem?_eq_none (show tabN.length ≤ i by omega)]
theorem nib_lt (r v : Nat) (h : r < 4294967296) : nib r v < 4294967296 := by
  unfold nib
  have h1 : r / 16 < 2 ^ 32 := by omega
  have h2 : tab ((r ^^^ v) % 16) < 2 ^ 32 := by have := tab_lt ((r ^^^ v) % 16); omega
  have := Nat.xor_lt_two_pow h1 h2
  omega
theorem byteT_lt (r b : Nat) (h : r < 4294967296) : byteT r b < 4294967296 := nib_lt _ _ (nib_lt _ _ h)
theorem bit1_lt (r b : Nat) (h : r < 4294967296) : bit1 r b < 4294967296 := by
  unfold bit1
  split
  · omega
  · have := Nat.xor_lt_two_pow (n := 32) (show r / 2 < 2 ^ 32 by omega) (show 3988292384 < 2 ^ 32 by decide)
    omega

/-- An even part rides along. -/
theorem bit1_xor (h c b : Nat) : bit1 (2 * h ^^^ c) b = h ^^^ bit1 c b := by
  have e1 : (2 * h ^^^ c) % 2 = c % 2 := by
    have := Nat.xor_mod_two_pow (a := 2 * h) (b := c) (n := 1)
    simp at this
    rw [this]
  have e2 : (2 * h ^^^ c) / 2 = h ^^^ (c / 2) := by
    have := Nat.xor_div_two_pow (a := 2 * h) (b := c) (n := 1)
    simpa using this
  unfold bit1
  rw [e1, e2]
  split
  · rfl
  · rw [Nat.xor_assoc]

def bit4 (r v : Nat) : Nat := bit1 (bit1 (bit1 (bit1 r (v % 2)) (v / 2 % 2)) (v / 4 % 2)) (v / 8 % 2)
theorem bit4_xor (h c v : Nat) : bit4 (16 * h ^^^ c) v = h ^^^ bit4 c v := by
  unfold bit4
  rw [show 16 * h = 2 * (2 * (2 * (2 * h))) by omega, bit1_xor, bit1_xor, bit1_xor, bit1_xor]
theorem bit4_small : ∀ l, l < 16 → ∀ v, v < 16 → bit4 l v = tab (l ^^^ v) := by decide +kernel
theorem bit4_nib (r v : Nat) (hv : v < 16) : bit4 r v = nib r v := by
  have e : r = 16 * (r / 16) ^^^ (r % 16) := by
    have h := Nat.two_pow_add_eq_or_of_lt (i := 4) (b := r % 16) (show r % 16 < 2 ^ 4 by omega) (r / 16)
    have e2 : 16 * (r / 16) ^^^ (r % 16) = 16 * (r / 16) + r % 16 := by
      apply Nat.eq_of_testBit_eq
      intro i
      have h1 : (16 * (r / 16) + r % 16).testBit i = (2 ^ 4 * (r / 16) ||| r % 16).testBit i := by rw [show 16 * (r / 16) + r % 16 = 2 ^ 4 * (r / 16) + r % 16 by omega, h]
      rw [h1, Nat.testBit_xor, Nat.testBit_or]
      by_cases hi : i < 4
      · have : (16 * (r / 16)).testBit i = false := by
          rw [show 16 * (r / 16) = 2 ^ 4 * (r / 16) by omega, Nat.testBit_two_pow_mul]
          simp; omega
        rw [this]; simp
      · have : (r % 16).testBit i = false := Nat.testBit_lt_two_pow (Nat.lt_of_lt_of_le (show r % 16 < 2 ^ 4 by omega) (Nat.pow_le_pow_right (by decide) (by omega)))
        rw [this]; simp
    omega
  have e3 : (r ^^^ v) % 16 = (r % 16) ^^^ v := by
    have := Nat.xor_mod_two_pow (a := r) (b := v) (n := 4)
    simp at this
    rw [this, Nat.mod_eq_of_lt hv]
  unfold nib
  rw [e3]
  have h2 := bit4_xor (r / 16) (r % 16) v
  rw [← e] at h2
  rw [h2, bit4_small _ (Nat.mod_lt _ (by decide)) _ hv]

def bits8 (r b : Nat) : Nat := bit1 (bit1 (bit1 (bit1 (bit1 (bit1 (bit1 (bit1 r (b % 2)) (b / 2 % 2)) (b / 4 % 2)) (b / 8 % 2)) (b / 16 % 2)) (b / 32 % 2)) (b / 64 % 2)) (b / 128 % 2)
theorem bits8_eq (r b : Nat) (hb : b < 256) : bits8 r b = byteT r b := by
  have h : bits8 r b = bit4 (bit4 r (b % 16)) (b / 16) := by
    unfold bits8 bit4
    rw [show b % 16 % 2 = b % 2 by omega, show b % 16 / 2 % 2 = b / 2 % 2 by omega, show b % 16 / 4 % 2 = b / 4 % 2 by omega, show b % 16 / 8 % 2 = b / 8 % 2 by omega, show b / 16 / 2 % 2 = b / 32 % 2 by omega, show b / 16 / 4 % 2 = b / 64 % 2 by omega, show b / 16 / 8 % 2 = b / 128 % 2 by omega]
  rw [h, bit4_nib _ _ (by omega), bit4_nib _ _ (by omega), nib_mod]
  rfl

/-! ### the bytes of a list -/
def Bytes (l : List Int) : Prop := ∀ x ∈ l, 0 ≤ x ∧ x < 256
def crc (r : Nat) (l : List Int) : Nat := l.foldl (fun r x => byteT r x.toNat) r
def sumI (l : List Int) : Int := 4294967295 - (crc 4294967295 l : Int)
theorem crc_lt (l : List Int) : ∀ r, r < 4294967296 → crc r l < 4294967296 := by
  induction l with
  | nil => exact fun r h => h
  | cons x l ih => exact fun r h => ih _ (byteT_lt _ _ h)
theorem sumI_range (l : List Int) : 0 ≤ sumI l ∧ sumI l < 4294967296 := by
  have := crc_lt l 4294967295 (by decide)
  unfold sumI
  omega
theorem rd_gl0 (i : Nat) (h : i < 16) : rd gl0 (i : Int) = (tab i : Int) := by
  have : i = 0 ∨ i = 1 ∨ i = 2 ∨ i = 3 ∨ i = 4 ∨ i = 5 ∨ i = 6 ∨ i = 7 ∨ i = 8 ∨ i = 9 ∨ i = 10 ∨ i = 11 ∨ i = 12 ∨ i = 13 ∨ i = 14 ∨ i = 15 := by omega
  rcases this with rfl | rfl | rfl | rfl | rfl | rfl | rfl | rfl | rfl | rfl | rfl | rfl | rfl | rfl | rfl | rfl <;> rfl
theorem and15 (a : Nat) : a &&& 15 = a % 16 := by
  have := Nat.and_two_pow_sub_one_eq_mod (x := a) (n := 4)
  simpa using this
theorem low (r b : Nat) (hr : r < 4294967296) (hb : b < 4294967296) : Go.bits .and .u32 (Go.bits .xor .u32 (r : Int) (b : Int)) 15 = (((r ^^^ b) % 16 : Nat) : Int) := by
  rw [u32_xor_nat r b hr hb]
  have hx : r ^^^ b < 2 ^ 32 := Nat.xor_lt_two_pow (by omega) (by omega)
  have h := u32_and_nat (r ^^^ b) 15 (by omega) (by decide)
  rw [show (15 : Int) = ((15 : Nat) : Int) from rfl, h, and15]
theorem nib_int (r b : Nat) (hr : r < 4294967296) (hb : b < 4294967296) : Go.bits .xor .u32 ((r : Int) / 16) (rd gl0 (Go.bits .and .u32 (Go.bits .xor .u32 (r : Int) (b : Int)) 15)) = (nib r b : Int) := by
  rw [low r b hr hb, rd_gl0 _ (Nat.mod_lt _ (by decide)), show (r : Int) / 16 = ((r / 16 : Nat) : Int) by omega, u32_xor_nat _ _ (by omega) (tab_lt _)]
  rfl
theorem not_int (r : Nat) (hr : r < 4294967296) : Go.bits .xor .u32 4294967295 (r : Int) = 4294967295 - (r : Int) := by
  have h := u32_xor_nat 4294967295 r (by decide) hr
  rw [show (4294967295 : Int) = ((4294967295 : Nat) : Int) from rfl, h]
  have e : 4294967295 ^^^ r = 4294967295 - r := by
    have h2 := BitVec.toNat_not (x := BitVec.ofNat 32 r)
    rw [← BitVec.allOnes_xor] at h2
    simp [BitVec.toNat_xor, Nat.mod_eq_of_lt hr] at h2
    exact h2
  rw [e]
  omega
theorem rd_nat (l : List Int) (i : Nat) (h : i < l.length) : rd l (i : Int) = l[i] := by simp [rd, h]
theorem byte_of {l : List Int} (hl : Bytes l) {i : Nat} (h : i < l.length) : ∃ b : Nat, b < 256 ∧ l[i] = (b : Int) := by
  have := hl l[i] (List.getElem_mem h)
  exact ⟨l[i].toNat, by omega, by omega⟩
theorem wrap_of (a : Int) (h0 : -9223372036854775808 ≤ a) (h1 : a ≤ 9223372036854775807) : wrap64 a = a := by unfold wrap64; omega

theorem sum_l0 (l : List Int) (hl : Bytes l) (hm : l.length ≤ 140737488351232) (d : Nat) : ∀ (k i r : Nat), i + d = l.length → d < k → r < 4294967296 →
    seal_Sum.l0 k (r : Int) l (l.length : Int) (i : Int) = some (4294967295 - (crc r (l.drop i) : Int)) := by
  induction d with
  | zero =>
    intro k i r hi hk hr
    obtain ⟨k, rfl⟩ : ∃ m, k = m + 1 := ⟨k - 1, by omega⟩
    simp only [seal_Sum.l0]
    rw [if_neg (by omega), not_int r hr, List.drop_eq_nil_of_le (by omega)]
    rfl
  | succ d ih =>
    intro k i r hi hk hr
    obtain ⟨k, rfl⟩ : ∃ m, k = m + 1 := ⟨k - 1, by omega⟩
    have hlt : i < l.length := by omega
    obtain ⟨b, hb, hlb⟩ := byte_of hl hlt
    have e1 : (rd l (i : Int)) % 4294967296 = (b : Int) := by rw [rd_nat l i hlt, hlb]; omega
    have e2 : ((rd l (i : Int)) / 16) % 4294967296 = ((b / 16 : Nat) : Int) := by rw [rd_nat l i hlt, hlb]; omega
    have hn := nib_lt r b hr
    simp only [seal_Sum.l0]
    rw [if_pos (by omega), if_pos (by omega), if_pos (by omega)]
    simp only [e1, e2, nib_int r b hr (by omega), nib_int (nib r b) (b / 16) hn (by omega)]
    rw [low r b hr (by omega), low (nib r b) (b / 16) hn (by omega)]
    rw [if_pos (by omega), if_pos (by omega), if_pos (by omega), if_pos (by omega), wrap_of _ (by omega) (by omega)]
    have h := ih k (i + 1) (byteT r b) (by omega) (by omega) (byteT_lt r b hr)
    rw [show ((i + 1 : Nat) : Int) = (i : Int) + 1 by omega] at h
    rw [show (nib (nib r b) (b / 16) : Nat) = byteT r b from rfl, h, List.drop_eq_getElem_cons hlt, hlb]
    rfl
theorem sum_f (l : List Int) (hl : Bytes l) (hm : l.length ≤ 140737488351232) (k : Nat) (hk : l.length < k) : seal_Sum.f k l = some (sumI l) := by
  have h := sum_l0 l hl hm l.length k 0 4294967295 (by omega) hk (by decide)
  unfold seal_Sum.f
  exact h
end Go.Proofs.YtifefhdinnechaaDoor.Pure
