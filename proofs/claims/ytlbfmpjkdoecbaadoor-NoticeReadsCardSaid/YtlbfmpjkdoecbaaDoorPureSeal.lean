-- one text of several: PureCrc PureSealOps PureSealSums PureTurn PureSealCloses
import Derived.Test.YtlbfmpjkdoecbaaDoorPAx0
import Derived.Test.YtlbfmpjkdoecbaaDoorPAx10
import Derived.Test.YtlbfmpjkdoecbaaDoorPAx11
import Derived.Test.YtlbfmpjkdoecbaaDoorPAx17
import Derived.Test.YtlbfmpjkdoecbaaDoorPAx18
import Derived.Test.YtlbfmpjkdoecbaaDoorPAx4
import Derived.Test.YtlbfmpjkdoecbaaDoorPAx5
import Derived.Test.YtlbfmpjkdoecbaaDoorPAx6
import Derived.OpenShut
import Derived.Laws.BitsAllLaws
namespace Go.Proofs.YtlbfmpjkdoecbaaDoor.Pure
open Go.RowKit Go.Proofs.YtlbfmpjkdoecbaaDoor.PA Go.Proofs.YtlbfmpjkdoecbaaDoorW.PrintWords Go.Proofs.YtlbfmpjkdoecbaaDoorW.PrintLast Go.Proofs.YtlbfmpjkdoecbaaDoorW.PrintMore
section

/-! ### natural numbers -/
def tabN : List Nat := [0, 498536548, 997073096, 651767980, 1994146192, 1802195444, 1303535960, 1342533948, 3988292384, 4027552580, 3604390888, 3412177804, 2607071920, 2262029012, 2685067896, 3183342108]
def tab (i : Nat) : Nat := tabN.getD i 0
def nib (r v : Nat) : Nat := r / 16 ^^^ tab ((r ^^^ v) % 16)
def byteT (r b : Nat) : Nat := nib (nib r b) (b / 16)
def bit1 (r b : Nat) : Nat := if r % 2 = b then r / 2 else (r / 2) ^^^ 3988292384
theorem xor16 (a b : Nat) : (a ^^^ b) % 16 = (a % 16) ^^^ (b % 16) := by
  have := Nat.xor_mod_two_pow (a := a) (b := b) (n := 4)
  simpa using this
theorem nib_mod (r v : Nat) : nib r (v % 16) = nib r v := by
  unfold nib
  rw [xor16, xor16 r v, Nat.mod_mod]
theorem tab_lt (i : Nat) : tab i < 4294967296 := by
  unfold tab
  by_cases h : i < 16
  · have : i = 0 ∨ i = 1 ∨ i = 2 ∨ i = 3 ∨ i = 4 ∨ i = 5 ∨ i = 6 ∨ i = 7 ∨ i = 8 ∨ i = 9 ∨ i = 10 ∨ i = 11 ∨ i = 12 ∨ i = 13 ∨ i = 14 ∨ i = 15 := by omega
    rcases this with rfl | rfl | rfl | rfl | rfl | rfl | rfl | rfl | rfl | rfl | rfl | rfl | rfl | rfl | rfl | rfl <;> decide
  · have : tabN.length = 16 := rfl
    simp [List.getD, List.getElem?_eq_none (show tabN.length ≤ i by omega)]
theorem nib_lt (r v : Nat) (h : r < 4294967296) : nib r v < 4294967296 := by
  unfold nib
  have h1 : r / 16 < 2 ^ 32 := by omega
  have h2 : tab ((r ^^^ v) % 16) < 2 ^ 32 := by have := tab_lt ((r ^^^ v) % 16); omega
  have := Nat.xor_lt_two_pow h1 h2
  omega
theorem byteT_lt (r b : Nat) (h : r < 4294967296) : byteT r b < 4294967296 := nib_lt _ _ (nib_lt _ _ h)
theorem bit1_lt (r b : Nat) (h : r < 4294967296) : bit1 r b < 4294967296 := by
  unfold bit1
  split
  · omega
  · have := Nat.xor_lt_two_pow (n := 32) (show r / 2 < 2 ^ 32 by omega) (show 3988292384 < 2 ^ 32 by decide)
    omega

/-- An even part rides along. -/
theorem bit1_xor (h c b : Nat) : bit1 (2 * h ^^^ c) b = h ^^^ bit1 c b := by
  have e1 : (2 * h ^^^ c) % 2 = c % 2 := by
    have := Nat.xor_mod_two_pow (a := 2 * h) (b := c) (n := 1)
    simp at this
    rw [this]
  have e2 : (2 * h ^^^ c) / 2 = h ^^^ (c / 2) := by
    have := Nat.xor_div_two_pow (a := 2 * h) (b := c) (n := 1)
    simpa using this
  unfold bit1
  rw [e1, e2]
  split
  · rfl
  · rw [Nat.xor_assoc]

def bit4 (r v : Nat) : Nat := bit1 (bit1 (bit1 (bit1 r (v % 2)) (v / 2 % 2)) (v / 4 % 2)) (v / 8 % 2)
theorem bit4_xor (h c v : Nat) : bit4 (16 * h ^^^ c) v = h ^^^ bit4 c v := by
  unfold bit4
  rw [show 16 * h = 2 * (2 * (2 * (2 * h))) by omega, bit1_xor, bit1_xor, bit1_xor, bit1_xor]
theorem bit4_small : ∀ l, l < 16 → ∀ v, v < 16 → bit4 l v = tab (l ^^^ v) := by decide +kernel
theorem bit4_nib (r v : Nat) (hv : v < 16) : bit4 r v = nib r v := by
  have e : r = 16 * (r / 16) ^^^ (r % 16) := by
    have h := Nat.two_pow_add_eq_or_of_lt (i := 4) (b := r % 16) (show r % 16 < 2 ^ 4 by omega) (r / 16)
    have e2 : 16 * (r / 16) ^^^ (r % 16) = 16 * (r / 16) + r % 16 := by
      apply Nat.eq_of_testBit_eq
      intro i
      have h1 : (16 * (r / 16) + r % 16).testBit i = (2 ^ 4 * (r / 16) ||| r % 16).testBit i := by rw [show 16 * (r / 16) + r % 16 = 2 ^ 4 * (r / 16) + r % 16 by omega, h]
      rw [h1, Nat.testBit_xor, Nat.testBit_or]
      by_cases hi : i < 4
      · have : (16 * (r / 16)).testBit i = false := by
          rw [show 16 * (r / 16) = 2 ^ 4 * (r / 16) by omega, Nat.testBit_two_pow_mul]
          simp; omega
        rw [this]; simp
      · have : (r % 16).testBit i = false := Nat.testBit_lt_two_pow (Nat.lt_of_lt_of_le (show r % 16 < 2 ^ 4 by omega) (Nat.pow_le_pow_right (by decide) (by omega)))
        rw [this]; simp
    omega
  have e3 : (r ^^^ v) % 16 = (r % 16) ^^^ v := by
    have := Nat.xor_mod_two_pow (a := r) (b := v) (n := 4)
    simp at this
    rw [this, Nat.mod_eq_of_lt hv]
  unfold nib
  rw [e3]
  have h2 := bit4_xor (r / 16) (r % 16) v
  rw [← e] at h2
  rw [h2, bit4_small _ (Nat.mod_lt _ (by decide)) _ hv]

def bits8 (r b : Nat) : Nat := bit1 (bit1 (bit1 (bit1 (bit1 (bit1 (bit1 (bit1 r (b % 2)) (b / 2 % 2)) (b / 4 % 2)) (b / 8 % 2)) (b / 16 % 2)) (b / 32 % 2)) (b / 64 % 2)) (b / 128 % 2)
theorem bits8_eq (r b : Nat) (hb : b < 256) : bits8 r b = byteT r b := by
  have h : bits8 r b = bit4 (bit4 r (b % 16)) (b / 16) := by
    unfold bits8 bit4
    rw [show b % 16 % 2 = b % 2 by omega, show b % 16 / 2 % 2 = b / 2 % 2 by omega, show b % 16 / 4 % 2 = b / 4 % 2 by omega, show b % 16 / 8 % 2 = b / 8 % 2 by omega, show b / 16 / 2 % 2 = b / 32 % 2 by omega, show b / 16 / 4 % 2 = b / 64 % 2 by omega, show b / 16 / 8 % 2 = b / 128 % 2 by omega]
  rw [h, bit4_nib _ _ (by omega), bit4_nib _ _ (by omega), nib_mod]
  rfl

/-! ### the bytes of a list -/
def Bytes (l : List Int) : Prop := ∀ x ∈ l, 0 ≤ x ∧ x < 256
def crc (r : Nat) (l : List Int) : Nat := l.foldl (fun r x => byteT r x.toNat) r
def sumI (l : List Int) : Int := 4294967295 - (crc 4294967295 l : Int)
theorem crc_lt (l : List Int) : ∀ r, r < 4294967296 → crc r l < 4294967296 := by
  induction l with
  | nil => exact fun r h => h
  | cons x l ih => exact fun r h => ih _ (byteT_lt _ _ h)
theorem sumI_range (l : List Int) : 0 ≤ sumI l ∧ sumI l < 4294967296 := by
  have := crc_lt l 4294967295 (by decide)
  unfold sumI
  omega
theorem rd_gl0 (i : Nat) (h : i < 16) : rd gl0 (i : Int) = (tab i : Int) := by
  have : i = 0 ∨ i = 1 ∨ i = 2 ∨ i = 3 ∨ i = 4 ∨ i = 5 ∨ i = 6 ∨ i = 7 ∨ i = 8 ∨ i = 9 ∨ i = 10 ∨ i = 11 ∨ i = 12 ∨ i = 13 ∨ i = 14 ∨ i = 15 := by omega
  rcases this with rfl | rfl | rfl | rfl | rfl | rfl | rfl | rfl | rfl | rfl | rfl | rfl | rfl | rfl | rfl | rfl <;> rfl
theorem and15 (a : Nat) : a &&& 15 = a % 16 := by
  have := Nat.and_two_pow_sub_one_eq_mod (x := a) (n := 4)
  simpa using this
theorem low (r b : Nat) (hr : r < 4294967296) (hb : b < 4294967296) : Go.bits .and .u32 (Go.bits .xor .u32 (r : Int) (b : Int)) 15 = (((r ^^^ b) % 16 : Nat) : Int) := by
  rw [u32_xor_nat r b hr hb]
  have hx : r ^^^ b < 2 ^ 32 := Nat.xor_lt_two_pow (by omega) (by omega)
  have h := u32_and_nat (r ^^^ b) 15 (by omega) (by decide)
  rw [show (15 : Int) = ((15 : Nat) : Int) from rfl, h, and15]
theorem nib_int (r b : Nat) (hr : r < 4294967296) (hb : b < 4294967296) : Go.bits .xor .u32 ((r : Int) / 16) (rd gl0 (Go.bits .and .u32 (Go.bits .xor .u32 (r : Int) (b : Int)) 15)) = (nib r b : Int) := by
  rw [low r b hr hb, rd_gl0 _ (Nat.mod_lt _ (by decide)), show (r : Int) / 16 = ((r / 16 : Nat) : Int) by omega, u32_xor_nat _ _ (by omega) (tab_lt _)]
  rfl
theorem not_int (r : Nat) (hr : r < 4294967296) : Go.bits .xor .u32 4294967295 (r : Int) = 4294967295 - (r : Int) := by
  have h := u32_xor_nat 4294967295 r (by decide) hr
  rw [show (4294967295 : Int) = ((4294967295 : Nat) : Int) from rfl, h]
  have e : 4294967295 ^^^ r = 4294967295 - r := by
    have h2 := BitVec.toNat_not (x := BitVec.ofNat 32 r)
    rw [← BitVec.allOnes_xor] at h2
    simp [BitVec.toNat_xor, Nat.mod_eq_of_lt hr] at h2
    exact h2
  rw [e]
  omega
theorem rd_nat (l : List Int) (i : Nat) (h : i < l.length) : rd l (i : Int) = l[i] := by simp [rd, h]
theorem byte_of {l : List Int} (hl : Bytes l) {i : Nat} (h : i < l.length) : ∃ b : Nat, b < 256 ∧ l[i] = (b : Int) := by
  have := hl l[i] (List.getElem_mem h)
  exact ⟨l[i].toNat, by omega, by omega⟩
theorem wrap_of (a : Int) (h0 : -9223372036854775808 ≤ a) (h1 : a ≤ 9223372036854775807) : wrap64 a = a := by unfold wrap64; omega

theorem sum_l0 (l : List Int) (hl : Bytes l) (hm : l.length ≤ 140737488351232) (d : Nat) : ∀ (k i r : Nat), i + d = l.length → d < k → r < 4294967296 →
    seal_Sum.l0 k (r : Int) l (l.length : Int) (i : Int) = some (4294967295 - (crc r (l.drop i) : Int)) := by
  induction d with
  | zero =>
    intro k i r hi hk hr
    obtain ⟨k, rfl⟩ : ∃ m, k = m + 1 := ⟨k - 1, by omega⟩
    simp only [seal_Sum.l0]
    rw [if_neg (by omega), not_int r hr, List.drop_eq_nil_of_le (by omega)]
    rfl
  | succ d ih =>
    intro k i r hi hk hr
    obtain ⟨k, rfl⟩ : ∃ m, k = m + 1 := ⟨k - 1, by omega⟩
    have hlt : i < l.length := by omega
    obtain ⟨b, hb, hlb⟩ := byte_of hl hlt
    have e1 : (rd l (i : Int)) % 4294967296 = (b : Int) := by rw [rd_nat l i hlt, hlb]; omega
    have e2 : ((rd l (i : Int)) / 16) % 4294967296 = ((b / 16 : Nat) : Int) := by rw [rd_nat l i hlt, hlb]; omega
    have hn := nib_lt r b hr
    simp only [seal_Sum.l0]
    rw [if_pos (by omega), if_pos (by omega), if_pos (by omega)]
    simp only [e1, e2, nib_int r b hr (by omega), nib_int (nib r b) (b / 16) hn (by omega)]
    rw [low r b hr (by omega), low (nib r b) (b / 16) hn (by omega)]
    rw [if_pos (by omega), if_pos (by omega), if_pos (by omega), if_pos (by omega), wrap_of _ (by omega) (by omega)]
    have h := ih k (i + 1) (byteT r b) (by omega) (by omega) (byteT_lt r b hr)
    rw [show ((i + 1 : Nat) : Int) = (i : Int) + 1 by omega] at h
    rw [show (nib (nib r b) (b / 16) : Nat) = byteT r b from rfl, h, List.drop_eq_getElem_cons hlt, hlb]
    rfl
theorem sum_f (l : List Int) (hl : Bytes l) (hm : l.length ≤ 140737488351232) (k : Nat) (hk : l.length < k) : seal_Sum.f k l = some (sumI l) := by
  have h := sum_l0 l hl hm l.length k 0 4294967295 (by omega) hk (by decide)
  unfold seal_Sum.f
  exact h
end

section

def wordI (n : Int) : List Int := [n / 16777216 % 256, n / 65536 % 256, n / 256 % 256, n % 256]
def readI (l : List Int) : Int := ((l.getD 0 0 * 256 + l.getD 1 0) * 256 + l.getD 2 0) * 256 + l.getD 3 0
def headI (age place n : Int) : List Int := wordI n ++ wordI age ++ wordI place
def closeI (age place : Int) (p : List Int) : List Int := headI age place p.length ++ wordI (sumI (headI age place p.length ++ p)) ++ p
def bodyI (l : List Int) : List Int := (l.take (16 + readI l).toNat).drop 16
def openI (age place : Int) (l : List Int) : List Int × Int × Int :=
  if (l.length : Int) < 16 then ([], 0, 5) else if readI l > 1048576 then ([], 0, 6) else if (l.length : Int) < 16 + readI l then ([], 0, 5)
  else if readI (l.drop 12) = sumI (l.take 12 ++ bodyI l) then (if readI (l.drop 4) = age then (if readI (l.drop 8) = place then (bodyI l, 16 + readI l, 0) else ([], 0, 10)) else ([], 0, 10)) else ([], 0, 4)

theorem Bytes.append {a b : List Int} (ha : Bytes a) (hb : Bytes b) : Bytes (a ++ b) := fun x hx => by
  rcases List.mem_append.1 hx with h | h
  · exact ha x h
  · exact hb x h
theorem Bytes.take {a : List Int} (ha : Bytes a) (n : Nat) : Bytes (a.take n) := fun x hx => ha x (List.mem_of_mem_take hx)
theorem Bytes.drop {a : List Int} (ha : Bytes a) (n : Nat) : Bytes (a.drop n) := fun x hx => ha x (List.mem_of_mem_drop hx)
theorem wordI_bytes (n : Int) : Bytes (wordI n) := by
  intro x hx
  simp only [wordI, List.mem_cons, List.not_mem_nil, or_false] at hx
  rcases hx with rfl | rfl | rfl | rfl <;> omega
theorem headI_bytes (a b n : Int) : Bytes (headI a b n) := ((wordI_bytes _).append (wordI_bytes _)).append (wordI_bytes _)
theorem closeI_bytes {a b : Int} {p : List Int} (h : Bytes p) : Bytes (closeI a b p) := ((headI_bytes _ _ _).append (wordI_bytes _)).append h
theorem headI_length (a b n : Int) : (headI a b n).length = 12 := rfl
theorem closeI_length (a b : Int) (p : List Int) : (closeI a b p).length = 16 + p.length := by
  unfold closeI
  rw [List.length_append, List.length_append, headI_length]
  rfl
theorem four {l : List Int} (h : 4 ≤ l.length) : ∃ a b c d r, l = a :: b :: c :: d :: r := by
  match l, h with
  | a :: b :: c :: d :: r, _ => exact ⟨a, b, c, d, r, rfl⟩
theorem readI_word (n : Int) (h0 : 0 ≤ n) (h1 : n < 4294967296) (r : List Int) : readI (wordI n ++ r) = n := by
  simp only [readI, wordI, List.cons_append, List.nil_append, List.getD_cons_zero, List.getD_cons_succ]
  omega
theorem readI_range {l : List Int} (hl : Bytes l) (h : 4 ≤ l.length) : 0 ≤ readI l ∧ readI l < 4294967296 := by
  obtain ⟨a, b, c, d, r, rfl⟩ := four h
  have ha := hl a (by simp)
  have hb := hl b (by simp)
  have hc := hl c (by simp)
  have hd := hl d (by simp)
  simp only [readI, List.getD_cons_zero, List.getD_cons_succ]
  omega
theorem or_add (n b : Int) (hn0 : 0 ≤ n) (_hn : n < 16777216) (hb0 : 0 ≤ b) (hb : b < 256) : Go.bits .or .u32 ((n * 256) % 4294967296) (b % 4294967296) = n * 256 + b := by
  obtain ⟨N, rfl⟩ := Int.eq_ofNat_of_zero_le hn0
  obtain ⟨B, rfl⟩ := Int.eq_ofNat_of_zero_le hb0
  have h := u32_or_nat (N * 256) B (by omega) (by omega)
  rw [show ((N : Int) * 256) % 4294967296 = ((N * 256 : Nat) : Int) by omega, show (B : Int) % 4294967296 = (B : Int) by omega, h]
  have e : N * 256 ||| B = N * 256 + B := by
    have := Nat.two_pow_add_eq_or_of_lt (i := 8) (b := B) (by omega) N
    rw [show N * 256 = 2 ^ 8 * N by omega]
    exact this.symm
  rw [e]
  omega
theorem read_f {l : List Int} (hl : Bytes l) (h : 4 ≤ l.length) (k : Nat) (hk : 5 ≤ k) : seal_read.f k l = some (readI l) := by
  obtain ⟨k, rfl⟩ : ∃ m, k = m + 5 := ⟨k - 5, by omega⟩
  obtain ⟨a, b, c, d, r, rfl⟩ := four h
  have ha := hl a (by simp)
  have hb := hl b (by simp)
  have hc := hl c (by simp)
  have hd := hl d (by simp)
  unfold seal_read.f
  rw [if_pos (by simp; omega)]
  have e : (a :: b :: c :: d :: r).take 4 = [a, b, c, d] := rfl
  rw [e]
  have w1 : wrap64 (0 + 1) = 1 := (wrap_of (0 + 1) (by decide) (by decide)).trans (by decide)
  have w2 : wrap64 (1 + 1) = 2 := (wrap_of (1 + 1) (by decide) (by decide)).trans (by decide)
  have w3 : wrap64 (2 + 1) = 3 := (wrap_of (2 + 1) (by decide) (by decide)).trans (by decide)
  have w4 : wrap64 (3 + 1) = 4 := (wrap_of (3 + 1) (by decide) (by decide)).trans (by decide)
  have r0 : rd [a, b, c, d] 0 = a := rfl
  have r1 : rd [a, b, c, d] 1 = b := rfl
  have r2 : rd [a, b, c, d] 2 = c := rfl
  have r3 : rd [a, b, c, d] 3 = d := rfl
  have g1 := or_add 0 a (by omega) (by omega) ha.1 ha.2
  have g2 := or_add (0 * 256 + a) b (by omega) (by omega) hb.1 hb.2
  have g3 := or_add ((0 * 256 + a) * 256 + b) c (by omega) (by omega) hc.1 hc.2
  have g4 := or_add (((0 * 256 + a) * 256 + b) * 256 + c) d (by omega) (by omega) hd.1 hd.2
  simp only [seal_read.l0, List.length_cons, List.length_nil, Nat.zero_add, Nat.reduceAdd, Int.cast_ofNat_Int, Int.reduceLT, Int.reduceLE, if_true, w1, w2, w3, w4, r0, r1, r2, r3, g1, g2, g3, g4, if_false]
  simp only [readI, List.getD_cons_zero, List.getD_cons_succ]
  congr 1
  omega
theorem word_f (n : Int) : seal_word.f n = some (wordI n) := rfl

theorem close_f {p : List Int} (hp : Bytes p) (hm : p.length ≤ 140737488351000) (a b : Int) (k : Nat) (hk : p.length + 20 < k) : seal_Close.f k a b p = some (closeI a b p) := by
  unfold seal_Close.f
  have hw : ∀ n, (wordI n).length = 4 := fun _ => rfl
  simp only [word_f, Option.bind_some, hw, List.nil_append, List.length_append, List.length_nil]
  rw [if_pos (by omega), if_pos (by omega), if_pos (by omega), if_pos (by omega)]
  have e : (wordI ((p.length : Int) % 4294967296)) = wordI p.length := by
    simp only [wordI, List.cons.injEq, and_true]
    omega
  rw [e]
  have hs := sum_f (headI a b p.length ++ p) ((headI_bytes a b _).append hp) (by rw [List.length_append, headI_length]; omega) k (by rw [List.length_append, headI_length]; omega)
  unfold headI at hs
  rw [hs]
  simp only [Option.bind_some]
  rw [if_pos (by omega), if_pos (by omega)]
  rfl
theorem open_f {l : List Int} (hl : Bytes l) (hm : l.length ≤ 140737488351000) (a b : Int) (k : Nat) (hk : l.length + 20 < k) : seal_Open.f k a b l = some (openI a b l) := by
  unfold seal_Open.f openI
  by_cases h1 : (l.length : Int) < 16
  · rw [if_pos h1, if_pos h1]
  · rw [if_neg h1, if_neg h1, read_f hl (by omega) k (by omega)]
    have hr := readI_range hl (by omega)
    simp only [Option.bind_some]
    rw [wrap_of (readI l) (by omega) (by omega)]
    by_cases h2 : readI l > 1048576
    · rw [if_pos h2, if_pos h2]
    · rw [if_neg h2, if_neg h2, wrap_of (16 + readI l) (by omega) (by omega)]
      by_cases h3 : (l.length : Int) < 16 + readI l
      · rw [if_pos h3, if_pos h3]
      · rw [if_neg h3, if_neg h3, if_pos (by omega), read_f (hl.drop 12) (by rw [List.length_drop]; omega) k (by omega)]
        have hb : bodyI l = (l.take (16 + readI l).toNat).drop 16 := rfl
        have hbl : (bodyI l).length = (readI l).toNat := by rw [hb, List.length_drop, List.length_take]; omega
        have hbB : Bytes (bodyI l) := (hl.take _).drop _
        simp only [Option.bind_some, List.nil_append, List.length_nil, ← hb]
        rw [if_pos (by rw [List.length_take]; omega), if_pos (by omega), if_pos (by omega), if_pos (by rw [List.length_take, hbl]; omega)]
        rw [sum_f (l.take 12 ++ bodyI l) ((hl.take _).append hbB) (by rw [List.length_append, List.length_take, hbl]; omega) k (by rw [List.length_append, List.length_take, hbl]; omega)]
        simp only [Option.bind_some]
        by_cases h4 : readI (l.drop 12) = sumI (l.take 12 ++ bodyI l)
        · rw [if_pos h4, if_pos h4, if_pos (by omega), read_f (hl.drop 4) (by rw [List.length_drop]; omega) k (by omega)]
          simp only [Option.bind_some]
          by_cases h5 : readI (l.drop 4) = a
          · rw [if_pos h5, if_pos h5, if_pos (by omega), read_f (hl.drop 8) (by rw [List.length_drop]; omega) k (by omega)]
            simp only [Option.bind_some]
            by_cases h6 : readI (l.drop 8) = b
            · rw [if_pos h6, if_pos h6, if_pos (by rw [hbl]; omega)]
            · rw [if_neg h6, if_neg h6]
          · rw [if_neg h5, if_neg h5]
        · rw [if_neg h4, if_neg h4]
end

section

theorem ref_step (l : List Int) (hm : l.length ≤ 140737488351232) (i j b r : Nat) (hi : i < l.length) (hj : j < 8) (hb : b < 256) (hlb : l[i] = (b : Int)) (hr : r < 4294967296) (k : Nat) :
    paybookref05_Sum.l0 (k + 1) l (r : Int) ((8 * i + j : Nat) : Int) = paybookref05_Sum.l0 k l (bit1 r (b / 2 ^ j % 2) : Int) ((8 * i + j + 1 : Nat) : Int) := by
  simp only [paybookref05_Sum.l0]
  have e0 : Int.tdiv ((8 * i + j : Nat) : Int) 8 = (i : Int) := by rw [Int.tdiv_eq_ediv_of_nonneg (by omega)]; omega
  have e1 : Int.tmod ((8 * i + j : Nat) : Int) 8 = (j : Int) := by rw [Int.tmod_eq_emod_of_nonneg (by omega)]; omega
  have e2 : Int.tmod (r : Int) 2 = ((r % 2 : Nat) : Int) := by rw [Int.tmod_eq_emod_of_nonneg (by omega)]; omega
  have e3 : (Int.tdiv (r : Int) 2) % 4294967296 = ((r / 2 : Nat) : Int) := by rw [Int.tdiv_eq_ediv_of_nonneg (by omega)]; omega
  rw [e0, e1, e2, e3, wrap_of (8 * (l.length : Int)) (by omega) (by omega), wrap_of (i : Int) (by omega) (by omega), wrap_of (((8 * i + j : Nat) : Int) + 1) (by omega) (by omega)]
  rw [if_pos (by omega), if_pos (by omega), if_pos (by omega), if_pos (by omega), rd_nat l i hi, hlb]
  have e4 : (shr .u8 (b : Int) (j : Int)) % 4294967296 % 2 = ((b / 2 ^ j % 2 : Nat) : Int) := by
    unfold shr
    rw [show min (j : Int).toNat IntKind.u8.bits = j from by simp [IntKind.bits]; omega]
    have : ((b : Int) / 2 ^ j) = ((b / 2 ^ j : Nat) : Int) := by simp
    rw [this]
    have h2 : b / 2 ^ j < 4294967296 := Nat.lt_of_le_of_lt (Nat.div_le_self _ _) (by omega)
    omega
  rw [e4]
  have ex : Go.bits .xor .u32 ((r / 2 : Nat) : Int) 3988292384 = (((r / 2) ^^^ 3988292384 : Nat) : Int) := u32_xor_nat (r / 2) 3988292384 (by omega) (by decide)
  unfold bit1
  by_cases hc : r % 2 = b / 2 ^ j % 2
  · rw [if_pos (by omega), if_pos hc]
    rfl
  · rw [if_neg (by omega), if_neg hc, ex]
    rfl
theorem ref_byte (l : List Int) (hm : l.length ≤ 140737488351232) (i b r : Nat) (hi : i < l.length) (hb : b < 256) (hlb : l[i] = (b : Int)) (hr : r < 4294967296) (k : Nat) :
    paybookref05_Sum.l0 (k + 8) l (r : Int) ((8 * i : Nat) : Int) = paybookref05_Sum.l0 k l (byteT r b : Int) ((8 * (i + 1) : Nat) : Int) := by
  have h0 := ref_step l hm i 0 b r hi (by decide) hb hlb hr (k + 7)
  have l0 := bit1_lt r (b / 2 ^ 0 % 2) hr
  have h1 := ref_step l hm i 1 b _ hi (by decide) hb hlb l0 (k + 6)
  have l1 := bit1_lt _ (b / 2 ^ 1 % 2) l0
  have h2 := ref_step l hm i 2 b _ hi (by decide) hb hlb l1 (k + 5)
  have l2 := bit1_lt _ (b / 2 ^ 2 % 2) l1
  have h3 := ref_step l hm i 3 b _ hi (by decide) hb hlb l2 (k + 4)
  have l3 := bit1_lt _ (b / 2 ^ 3 % 2) l2
  have h4 := ref_step l hm i 4 b _ hi (by decide) hb hlb l3 (k + 3)
  have l4 := bit1_lt _ (b / 2 ^ 4 % 2) l3
  have h5 := ref_step l hm i 5 b _ hi (by decide) hb hlb l4 (k + 2)
  have l5 := bit1_lt _ (b / 2 ^ 5 % 2) l4
  have h6 := ref_step l hm i 6 b _ hi (by decide) hb hlb l5 (k + 1)
  have l6 := bit1_lt _ (b / 2 ^ 6 % 2) l5
  have h7 := ref_step l hm i 7 b _ hi (by decide) hb hlb l6 k
  simp only [Nat.add_zero, Nat.add_assoc, Nat.reduceAdd] at h0 h1 h2 h3 h4 h5 h6 h7
  rw [show 8 * (i + 1) = 8 * i + 8 by omega]
  have e := bits8_eq r b hb
  unfold bits8 at e
  simp only [Nat.reducePow, Nat.div_one] at h0 h1 h2 h3 h4 h5 h6 h7
  rw [h0, h1, h2, h3, h4, h5, h6, h7, e]
theorem ref_l0 (l : List Int) (hl : Bytes l) (hm : l.length ≤ 140737488351232) (d : Nat) : ∀ (k i r : Nat), i + d = l.length → 8 * d < k → r < 4294967296 →
    paybookref05_Sum.l0 k l (r : Int) ((8 * i : Nat) : Int) = some (4294967295 - (crc r (l.drop i) : Int)) := by
  induction d with
  | zero =>
    intro k i r hi hk hr
    obtain ⟨k, rfl⟩ : ∃ m, k = m + 1 := ⟨k - 1, by omega⟩
    simp only [paybookref05_Sum.l0]
    rw [wrap_of (8 * (l.length : Int)) (by omega) (by omega), if_neg (by omega), List.drop_eq_nil_of_le (by omega)]
    show some ((4294967295 - (r : Int)) % 4294967296) = some (4294967295 - (r : Int))
    congr 1
    omega
  | succ d ih =>
    intro k i r hi hk hr
    obtain ⟨k, rfl⟩ : ∃ m, k = m + 8 := ⟨k - 8, by omega⟩
    have hlt : i < l.length := by omega
    obtain ⟨b, hb, hlb⟩ := byte_of hl hlt
    rw [ref_byte l hm i b r hlt hb hlb hr, ih k (i + 1) _ (by omega) (by omega) (byteT_lt r b hr), List.drop_eq_getElem_cons hlt, hlb]
    rfl
theorem ref_f (l : List Int) (hl : Bytes l) (hm : l.length ≤ 140737488351232) (k : Nat) (hk : 8 * l.length < k) : paybookref05_Sum.f k l = some (sumI l) := by
  have h := ref_l0 l hl hm l.length k 0 4294967295 (by omega) hk (by decide)
  unfold paybookref05_Sum.f
  exact h
theorem bytes_of {l : List Int} (h : ∀ x ∈ l, (Lit.int .u8 x).wf = true) : Bytes l := fun x hx => by have := bounds_u8 (h x hx); omega
end

section

theorem tab_high : ∀ i, i < 16 → ∀ j, j < 16 → tab i / 268435456 = tab j / 268435456 → i = j := by decide +kernel
theorem xor_cancel {a b c : Nat} (h : a ^^^ b = a ^^^ c) : b = c := by
  have : a ^^^ (a ^^^ b) = a ^^^ (a ^^^ c) := by rw [h]
  rwa [← Nat.xor_assoc, ← Nat.xor_assoc, Nat.xor_self, Nat.zero_xor, Nat.zero_xor] at this
theorem high_of (a c : Nat) (ha : a < 268435456) : (a ^^^ c) / 268435456 = c / 268435456 := by
  have h := Nat.xor_div_two_pow (a := a) (b := c) (n := 28)
  simp only [Nat.reducePow] at h
  rw [h, Nat.div_eq_of_lt ha, Nat.zero_xor]
theorem nib_inj {r r' v v' : Nat} (hr : r < 4294967296) (hr' : r' < 4294967296) (h : nib r v = nib r' v') : r / 16 = r' / 16 ∧ (r % 16) ^^^ (v % 16) = (r' % 16) ^^^ (v' % 16) := by
  unfold nib at h
  have h1 : (r / 16 ^^^ tab ((r ^^^ v) % 16)) / 268435456 = (r' / 16 ^^^ tab ((r' ^^^ v') % 16)) / 268435456 := by rw [h]
  rw [high_of _ _ (by omega), high_of _ _ (by omega)] at h1
  have h2 := tab_high _ (Nat.mod_lt _ (by decide)) _ (Nat.mod_lt _ (by decide)) h1
  rw [h2, Nat.xor_comm, Nat.xor_comm (r' / 16)] at h
  have h3 := xor_cancel h
  rw [xor16, xor16 r' v'] at h2
  exact ⟨h3, h2⟩
theorem nib_state {r r' v : Nat} (hr : r < 4294967296) (hr' : r' < 4294967296) (h : nib r v = nib r' v) : r = r' := by
  obtain ⟨h1, h2⟩ := nib_inj hr hr' h
  rw [Nat.xor_comm, Nat.xor_comm (r' % 16)] at h2
  have := xor_cancel h2
  omega
theorem byteT_state {r r' b : Nat} (hr : r < 4294967296) (hr' : r' < 4294967296) (h : byteT r b = byteT r' b) : r = r' :=
  nib_state hr hr' (nib_state (nib_lt _ _ hr) (nib_lt _ _ hr') h)
theorem byteT_byte {r b b' : Nat} (hr : r < 4294967296) (hb : b < 256) (hb' : b' < 256) (h : byteT r b = byteT r b') : b = b' := by
  obtain ⟨h1, h2⟩ := nib_inj (nib_lt r b hr) (nib_lt r b' hr) h
  have h3 : b % 16 = b' % 16 := by
    have h4 : nib r b / 268435456 = nib r b' / 268435456 := by
      have := nib_lt r b hr
      have := nib_lt r b' hr
      omega
    unfold nib at h4
    rw [high_of _ _ (by omega), high_of _ _ (by omega)] at h4
    have h5 := tab_high _ (Nat.mod_lt _ (by decide)) _ (Nat.mod_lt _ (by decide)) h4
    rw [xor16, xor16 r b'] at h5
    exact xor_cancel h5
  have h6 : nib r b = nib r b' := by rw [← nib_mod r b, ← nib_mod r b', h3]
  rw [h6] at h2
  have := xor_cancel h2
  omega
theorem crc_state (l : List Int) : ∀ r r', r < 4294967296 → r' < 4294967296 → crc r l = crc r' l → r = r' := by
  induction l with
  | nil => exact fun r r' _ _ h => h
  | cons x l ih => exact fun r r' h1 h2 h => byteT_state h1 h2 (ih _ _ (byteT_lt _ _ h1) (byteT_lt _ _ h2) h)
theorem crc_append (r : Nat) (a b : List Int) : crc r (a ++ b) = crc (crc r a) b := by simp [crc, List.foldl_append]
/-- ONE BYTE TURNED IS SEEN. -/
theorem sum_set {l : List Int} (hl : Bytes l) {i : Nat} (hi : i < l.length) {v : Int} (hv0 : 0 ≤ v) (hv : v < 256) (hne : v ≠ l[i]) : sumI (l.set i v) ≠ sumI l := by
  intro h
  have h1 : crc 4294967295 (l.set i v) = crc 4294967295 l := by unfold sumI at h; omega
  have e1 : l.set i v = l.take i ++ v :: l.drop (i + 1) := List.set_eq_take_append_cons_drop |> (fun h => by rw [h, if_pos hi])
  have e2 : l = l.take i ++ l[i] :: l.drop (i + 1) := by rw [← List.drop_eq_getElem_cons hi, List.take_append_drop]
  rw [e1, crc_append] at h1
  have h2 : crc 4294967295 l = crc (crc 4294967295 (l.take i)) (l[i] :: l.drop (i + 1)) := by
    rw [← crc_append, ← e2]
  rw [h2] at h1
  have hs := crc_lt (l.take i) 4294967295 (by decide)
  have h3 := crc_state _ _ _ (byteT_lt _ _ hs) (byteT_lt _ _ hs) h1
  have hb := hl l[i] (List.getElem_mem hi)
  have h4 := byteT_byte hs (by omega) (by omega) h3
  omega
theorem read_set {l : List Int} (hl : Bytes l) (h4 : 4 ≤ l.length) {j : Nat} (hj : j < 4) {v : Int} (_hv0 : 0 ≤ v) (_hv : v < 256) (hne : v ≠ l[j]) : readI (l.set j v) ≠ readI l := by
  obtain ⟨a, b, c, d, r, rfl⟩ := four h4
  have ha := hl a (by simp)
  have hb := hl b (by simp)
  have hc := hl c (by simp)
  have hd := hl d (by simp)
  have : j = 0 ∨ j = 1 ∨ j = 2 ∨ j = 3 := by omega
  rcases this with rfl | rfl | rfl | rfl
  all_goals
    simp only [List.set_cons_zero, List.set_cons_succ, readI, List.getD_cons_zero, List.getD_cons_succ]
    simp only [List.getElem_cons_zero, List.getElem_cons_succ] at hne
    omega
theorem read_far (l : List Int) {j : Nat} (hj : 4 ≤ j) (v : Int) : readI (l.set j v) = readI l := by
  have h : ∀ q, q < 4 → (l.set j v).getD q 0 = l.getD q 0 := by
    intro q hq
    rw [List.getD_eq_getElem?_getD, List.getD_eq_getElem?_getD, List.getElem?_set_ne (by omega)]
  unfold readI
  rw [h 0 (by omega), h 1 (by omega), h 2 (by omega), h 3 (by omega)]
theorem read_take (l : List Int) {m : Nat} (hm : 4 ≤ m) : readI (l.take m) = readI l := by
  have h : ∀ q, q < 4 → (l.take m).getD q 0 = l.getD q 0 := by
    intro q hq
    rw [List.getD_eq_getElem?_getD, List.getD_eq_getElem?_getD, List.getElem?_take_of_lt (by omega)]
  unfold readI
  rw [h 0 (by omega), h 1 (by omega), h 2 (by omega), h 3 (by omega)]

/-! ### a closed seal's parts -/
section
variable {a b : Int} {p : List Int}
theorem close_read (hp : p.length < 4294967296) : readI (closeI a b p) = p.length := by
  unfold closeI headI
  simp only [List.append_assoc]
  exact readI_word _ (by omega) (by omega) _
theorem close_take : (closeI a b p).take 12 = headI a b p.length := by
  unfold closeI
  rw [List.append_assoc, List.take_append_of_le_length (by rw [headI_length]; omega)]
  exact List.take_of_length_le (by rw [headI_length]; omega)
theorem close_drop12 : (closeI a b p).drop 12 = wordI (sumI (headI a b p.length ++ p)) ++ p := by
  unfold closeI
  rw [List.append_assoc]
  exact List.drop_left' (headI_length _ _ _)
theorem close_drop16 : (closeI a b p).drop 16 = p := by
  unfold closeI
  exact List.drop_left' (by rw [List.length_append, headI_length]; rfl)
theorem close_read12 : readI ((closeI a b p).drop 12) = sumI (headI a b p.length ++ p) := by
  rw [close_drop12]
  have := sumI_range (headI a b p.length ++ p)
  exact readI_word _ this.1 this.2 _
theorem close_body (hp : p.length < 4294967296) : bodyI (closeI a b p) = p := by
  unfold bodyI
  rw [close_read hp, List.take_of_length_le (by rw [closeI_length]; omega), close_drop16]
theorem close_read4 (ha0 : 0 ≤ a) (ha : a < 4294967296) : readI ((closeI a b p).drop 4) = a := by
  have e : (closeI a b p).drop 4 = wordI a ++ (wordI b ++ (wordI (sumI (headI a b p.length ++ p)) ++ p)) := by
    unfold closeI headI
    simp only [List.append_assoc]
    exact List.drop_left' rfl
  rw [e]
  exact readI_word _ ha0 ha _
theorem close_read8 (hb0 : 0 ≤ b) (hb : b < 4294967296) : readI ((closeI a b p).drop 8) = b := by
  have e : (closeI a b p).drop 8 = wordI b ++ (wordI (sumI (headI a b p.length ++ p)) ++ p) := by
    unfold closeI headI
    rw [List.append_assoc, List.append_assoc]
    exact List.drop_left' rfl
  rw [e]
  exact readI_word _ hb0 hb _
end
/-- What is opened of a right seal with others behind. -/
theorem open_close {a b : Int} {p : List Int} (more : List Int) (hp : p.length ≤ 1048576) (ha0 : 0 ≤ a) (ha : a < 4294967296) (hb0 : 0 ≤ b) (hb : b < 4294967296) : openI a b (closeI a b p ++ more) = (p, 16 + (p.length : Int), 0) := by
  have hl := closeI_length a b p
  have h4 : readI (closeI a b p ++ more) = p.length := by
    rw [← read_take (closeI a b p ++ more) (m := 16 + p.length) (by omega), List.take_left' hl, close_read (by omega)]
  have hbody : bodyI (closeI a b p ++ more) = p := by
    unfold bodyI
    rw [h4, List.take_append_of_le_length (by omega), List.take_of_length_le (by omega), close_drop16]
  have hd : ∀ m, m ≤ 12 → readI ((closeI a b p ++ more).drop m) = readI ((closeI a b p).drop m) := by
    intro m hm
    rw [List.drop_append_of_le_length (by omega), ← read_take ((closeI a b p).drop m ++ more) (m := ((closeI a b p).drop m).length) (by rw [List.length_drop]; omega), List.take_left' rfl]
  unfold openI
  rw [if_neg (by rw [List.length_append]; omega), h4, if_neg (by omega), if_neg (by rw [List.length_append]; omega), hbody, hd 12 (by omega), hd 4 (by omega), hd 8 (by omega), List.take_append_of_le_length (by omega), close_take, close_read12, if_pos rfl, close_read4 ha0 ha, if_pos rfl, close_read8 hb0 hb, if_pos rfl]
/-- A seal of which one byte is another one. -/
theorem open_turned {a b : Int} {p : List Int} (hp : Bytes p) (hn : p.length ≤ 1048576) {k : Nat} (hk : k < 16 + p.length) {v : Int} (hv0 : 0 ≤ v) (hv : v < 256) (hne : v ≠ (closeI a b p)[k]'(by rw [closeI_length]; omega)) (c d : Int) :
    (openI c d ((closeI a b p).set k v)).2.2 ≠ 0 ∨ k < 4 ∧ (openI c d ((closeI a b p).set k v)).2.1 < 16 + p.length := by
  have hl := closeI_length a b p
  have hB := closeI_bytes (a := a) (b := b) hp
  have hlt : k < (closeI a b p).length := by omega
  by_cases h4 : k < 4
  · have h := read_set hB (by omega) h4 hv0 hv hne
    rw [close_read (by omega)] at h
    unfold openI
    rw [List.length_set, hl, if_neg (by omega)]
    by_cases h2 : readI ((closeI a b p).set k v) > 1048576
    · rw [if_pos h2]; left; decide
    · rw [if_neg h2]
      by_cases h3 : ((16 + p.length : Nat) : Int) < 16 + readI ((closeI a b p).set k v)
      · rw [if_pos h3]; left; decide
      · rw [if_neg h3]
        split
        · split
          · split
            · right; exact ⟨h4, by show 16 + readI _ < 16 + (p.length : Int); omega⟩
            · left; simp
          · left; simp
        · left; simp
  · left
    have hr : readI ((closeI a b p).set k v) = p.length := by rw [read_far _ (by omega), close_read (by omega)]
    have hbody : bodyI ((closeI a b p).set k v) = if k < 16 then p else p.set (k - 16) v := by
      unfold bodyI
      rw [hr, List.take_of_length_le (by rw [List.length_set, hl]; omega), List.drop_set, close_drop16]
    have h12 : ((closeI a b p).set k v).take 12 = (headI a b p.length).set k v := by rw [List.take_set, close_take]
    have hwrong : ¬ readI (((closeI a b p).set k v).drop 12) = sumI (((closeI a b p).set k v).take 12 ++ bodyI ((closeI a b p).set k v)) := by
      rw [hbody, h12, List.drop_set]
      have hxB : Bytes (headI a b p.length ++ p) := (headI_bytes _ _ _).append hp
      by_cases h16 : k < 16
      · rw [if_pos h16]
        by_cases hk12 : k < 12
        · rw [if_pos hk12, close_read12]
          have e : (headI a b p.length).set k v ++ p = (headI a b p.length ++ p).set k v := by rw [List.set_append_left _ _ (by rw [headI_length]; omega)]
          rw [e]
          refine fun h => sum_set hxB (i := k) (by rw [List.length_append, headI_length]; omega) hv0 hv ?_ h.symm
          intro he
          refine hne (he.trans ?_)
          rw [List.getElem_append_left (by rw [headI_length]; omega)]
          unfold closeI
          rw [List.getElem_append_left (by rw [List.length_append, headI_length]; omega), List.getElem_append_left (by rw [headI_length]; omega)]
        · rw [if_neg hk12, List.set_eq_of_length_le (l := headI a b p.length) (by rw [headI_length]; omega), ← close_read12 (a := a) (b := b)]
          refine read_set (hB.drop 12) (by rw [List.length_drop]; omega) (by omega) hv0 hv ?_
          intro he
          refine hne (he.trans ?_)
          rw [List.getElem_drop]
          congr 1
          omega
      · rw [if_neg h16, if_neg (by omega), read_far _ (by omega), close_read12, List.set_eq_of_length_le (l := headI a b p.length) (by rw [headI_length]; omega)]
        have e : headI a b p.length ++ p.set (k - 16) v = (headI a b p.length ++ p).set (k - 4) v := by
          rw [List.set_append_right _ _ (by rw [headI_length]; omega), headI_length, show k - 4 - 12 = k - 16 by omega]
        rw [e]
        refine fun h => sum_set hxB (i := k - 4) (by rw [List.length_append, headI_length]; omega) hv0 hv ?_ h.symm
        intro he
        refine hne (he.trans ?_)
        rw [List.getElem_append_right (by rw [headI_length]; omega)]
        have e2 : (closeI a b p)[k]'hlt = p[k - 16]'(by omega) := by
          have h5 := close_drop16 (a := a) (b := b) (p := p)
          have h6 : ((closeI a b p).drop 16)[k - 16]? = p[k - 16]? := by rw [h5]
          rw [List.getElem?_drop, show 16 + (k - 16) = k by omega, List.getElem?_eq_getElem hlt, List.getElem?_eq_getElem (by omega)] at h6
          exact Option.some.inj h6
        rw [e2]
        congr 1
    unfold openI
    rw [List.length_set, hl, if_neg (by omega), hr, if_neg (by omega), if_neg (by omega), if_neg hwrong]
    decide
/-- A seal that is cut. -/
theorem open_cut {a b : Int} {p : List Int} (hn : p.length ≤ 1048576) {m : Nat} (hm : m < 16 + p.length) (c d : Int) : openI c d ((closeI a b p).take m) = ([], 0, 5) := by
  have hl := closeI_length a b p
  unfold openI
  rw [List.length_take, hl]
  by_cases h : m < 16
  · rw [if_pos (by omega)]
  · rw [if_neg (by omega), read_take _ (by omega), close_read (by omega), if_neg (by omega), if_pos (by omega)]
end

section

theorem refFour_f (n : Int) (h0 : 0 ≤ n) (_h1 : n < 4294967296) : paybookref05_Four.f n = some (wordI n) := by
  unfold paybookref05_Four.f wordI
  rw [Int.tdiv_eq_ediv_of_nonneg h0, Int.tdiv_eq_ediv_of_nonneg h0, Int.tdiv_eq_ediv_of_nonneg h0, Int.tmod_eq_emod_of_nonneg h0]
  simp only [Option.some.injEq, List.cons.injEq, and_true]
  omega
theorem refClose_f {p : List Int} (hp : Bytes p) (hm : p.length ≤ 1048576) (a b : Int) (ha : 0 ≤ a ∧ a < 4294967296) (hb : 0 ≤ b ∧ b < 4294967296) (k : Nat) (hk : 8 * p.length + 200 < k) : paybookref05_Close.f k a b p = some (closeI a b p) := by
  unfold paybookref05_Close.f
  have hw : ∀ n, (wordI n).length = 4 := fun _ => rfl
  have hs := ref_f (headI a b p.length ++ p) ((headI_bytes a b _).append hp) (by rw [List.length_append, headI_length]; omega) k (by rw [List.length_append, headI_length]; omega)
  have hr := sumI_range (headI a b p.length ++ p)
  rw [show ((p.length : Int)) % 4294967296 = (p.length : Int) by omega, refFour_f _ (by omega) (by omega), refFour_f a ha.1 ha.2, refFour_f b hb.1 hb.2]
  simp only [Option.bind_some, hw, List.nil_append, List.length_append, List.length_nil]
  rw [if_pos (by omega), if_pos (by omega), if_pos (by omega), if_pos (by omega), if_pos (by omega)]
  unfold headI at hs
  rw [hs]
  simp only [Option.bind_some]
  unfold headI at hr
  rw [refFour_f _ hr.1 hr.2]
  simp only [Option.bind_some, hw]
  rw [if_pos (by omega), if_pos (by omega)]
  rfl
end
end Go.Proofs.YtlbfmpjkdoecbaaDoor.Pure
