/- What closing and opening a seal come to, as plain functions of lists of bytes. Each byte lies from 0 to 255; no list is longer than a slice may be. -/
import Derived.Test.YtifefhdinnechaaDoorPureCrc
import Derived.Test.YtifefhdinnechaaDoorPAx6
import Derived.Test.YtifefhdinnechaaDoorPAx7
import Derived.Test.YtifefhdinnechaaDoorPAx8
import Derived.Test.YtifefhdinnechaaDoorPAx9
namespace Go.Proofs.YtifefhdinnechaaDoor.Pure
open Go.RowKit Go.Proofs.YtifefhdinnechaaDoor.PA Go.Proofs.YtifefhdinnechaaDoorW.PrintWords Go.Proofs.YtifefhdinnechaaDoorW.PrintLast Go.Proofs.YtifefhdinnechaaDoorW.PrintMore

def wordI (n : Int) : List Int := [n / 16777216 % 256, n / 65536 % 256, n / 256 % 256, n % 256]
def readI (l : List Int) : Int := ((l.getD 0 0 * 256 + l.getD 1 0) * 256 + l.getD 2 0) * 256 + l.getD 3 0
def headI (age place n : Int) : List Int := wordI n ++ wordI age ++ wordI place
def closeI (age place : Int) (p : List Int) : List Int := headI age place p.length ++ wordI (sumI (headI age place p.length ++ p)) ++ p
def bodyI (l : List Int) : List Int := (l.take (16 + readI l).toNat).drop 16
def openI (age place : Int) (l : List Int) : List Int × Int × Int :=
  if (l.length : Int) < 16 then ([], 0, 5) else if readI l > 1048576 then ([], 0, 6) else if (l.length : Int) < 16 + readI l then ([], 0, 5)
  else if readI (l.drop 12) = sumI (l.take 12 ++ bodyI l) then (if readI (l.drop 4) = age then (if readI (l.drop 8) = place then (bodyI l, 16 + readI l, 0) else ([], 0, 10)) else ([], 0, 10)) else ([], 0, 4)

theorem Bytes.append {a b : List Int} (ha : Bytes a) (hb : Bytes b) : Bytes (a ++ b) := fun x hx => by
  rcases List.mem_append.1 hx with h | h
  · exact ha x h
  · exact hb x h
theorem Bytes.take {a : List Int} (ha : Bytes a) (n : Nat) : Bytes (a.take n) := fun x hx => ha x (List.mem_of_mem_take hx)
theorem Bytes.drop {a : List Int} (ha : Bytes a) (n : Nat) : Bytes (a.drop n) := fun x hx => ha x (List.mem_of_mem_drop hx)
theorem wordI_bytes (n : Int) : Bytes (wordI n) := by
  intro x hx
  simp only [wordI, List.mem_cons, List.not_mem_nil, or_false] at hx
  rcases hx with rfl | rfl | rfl | rfl <;> omega
theorem headI_bytes (a b n : Int) : Bytes (headI a b n) := ((wordI_bytes _).append (wordI_bytes _)).append (wordI_bytes _)
theorem closeI_bytes {a b : Int} {p : List Int} (h : Bytes p) : Bytes (closeI a b p) := ((headI_bytes _ _ _).append (wordI_bytes _)).append h
theorem headI_length (a b n : Int) : (headI a b n).length = 12 := rfl
theorem closeI_length (a b : Int) (p : List Int) : (closeI a b p).length = 16 + p.length := by
  unfold closeI
  rw [List.length_append, List.length_append, headI_length]
  rfl
theorem four {l : List Int} (h : 4 ≤ l.length) : ∃ a b c d r, l = a :: b :: c :: d :: r := by
  match l, h with
  | a :: b :: c :: d :: r, _ => exact ⟨a, b, c, d, r, rfl⟩
theorem readI_word (n : Int) (h0 : 0 ≤ n) (h1 : n < 4294967296) (r : List Int) : readI (wordI n ++ r) = n := by
  simp only [readI, wordI, List.cons_append, List.nil_append, List.getD_cons_zero, List.getD_cons_succ]
  omega
theorem readI_range {l : List Int} (hl : Bytes l) (h : 4 ≤ l.length) : 0 ≤ readI l ∧ readI l < 4294967296 := by
  obtain ⟨a, b, c, d, r, rfl⟩ := four h
  have ha := hl a (by simp)
  have hb := hl b (by simp)
  have hc := hl c (by simp)
  have hd := hl d (by simp)
  simp only [readI, List.getD_cons_zero, List.getD_cons_succ]
  omega
theorem or_add (n b : Int) (hn0 : 0 ≤ n) (_hn : n < 16777216) (hb0 : 0 ≤ b) (hb : b < 256) : Go.bits .or .u32 ((n * 256) % 4294967296) (b % 4294967296) = n * 256 + b := by
  obtain ⟨N, rfl⟩ := Int.eq_ofNat_of_zero_le hn0
  obtain ⟨B, rfl⟩ := Int.eq_ofNat_of_zero_le hb0
  have h := u32_or_nat (N * 256) B (by omega) (by omega)
  rw [show ((N : Int) * 256) % 4294967296 = ((N * 256 : Nat) : Int) by omega, show (B : Int) % 4294967296 = (B : Int) by omega, h]
  have e : N * 256 ||| B = N * 256 + B := by
    have := Nat.two_pow_add_eq_or_of_lt (i := 8) (b := B) (by omega) N
    rw [show N * 256 = 2 ^ 8 * N by omega]
    exact this.symm
  rw [e]
  omega
theorem read_f {l : List Int} (hl : Bytes l) (h : 4 ≤ l.length) (k : Nat) (hk : 5 ≤ k) : seal_read.f k l = some (readI l) := by
  obtain ⟨k, rfl⟩ : ∃ m, k = m + 5 := ⟨k - 5, by omega⟩
  obtain ⟨a, b, c, d, r, rfl⟩ := four h
  have ha := hl a (by simp)
  have hb := hl b (by simp)
  have hc := hl c (by simp)
  have hd := hl d (by simp)
  unfold seal_read.f
  rw [if_pos (by simp; omega)]
  have e : (a :: b :: c :: d :: r).take 4 = [a, b, c, d] := rfl
  rw [e]
  have w1 : wrap64 (0 + 1) = 1 := (wrap_of (0 + 1) (by decide) (by decide)).trans (by decide)
  have w2 : wrap64 (1 + 1) = 2 := (wrap_of (1 + 1) (by decide) (by decide)).trans (by decide)
  have w3 : wrap64 (2 + 1) = 3 := (wrap_of (2 + 1) (by decide) (by decide)).trans (by decide)
  have w4 : wrap64 (3 + 1) = 4 := (wrap_of (3 + 1) (by decide) (by decide)).trans (by decide)
  have r0 : rd [a, b, c, d] 0 = a := rfl
  have r1 : rd [a, b, c, d] 1 = b := rfl
  have r2 : rd [a, b, c, d] 2 = c := rfl
  have r3 : rd [a, b, c, d] 3 = d := rfl
  have g1 := or_add 0 a (by omega) (by omega) ha.1 ha.2
  have g2 := or_add (0 * 256 + a) b (by omega) (by omega) hb.1 hb.2
  have g3 := or_add ((0 * 256 + a) * 256 + b) c (by omega) (by omega) hc.1 hc.2
  have g4 := or_add (((0 * 256 + a) * 256 + b) * 256 + c) d (by omega) (by omega) hd.1 hd.2
  simp only [seal_read.l0, List.length_cons, List.length_nil, Nat.zero_add, Nat.reduceAdd, Int.cast_ofNat_Int, Int.reduceLT, Int.reduceLE, if_true, w1, w2, w3, w4, r0, r1, r2, r3, g1, g2, g3, g4, if_false]
  simp only [readI, List.getD_cons_zero, List.getD_cons_succ]
  congr 1
  omega
theorem word_f (n : Int) : seal_word.f n = some (wordI n) := rfl

theorem close_f {p : List Int} (hp : Bytes p) (hm : p.length ≤ 140737488351000) (a b : Int) (k : Nat) (hk : p.length + 20 < k) : seal_Close.f k a b p = some (closeI a b p) := by
  unfold seal_Close.f
  have hw : ∀ n, (wordI n).length = 4 := fun _ => rfl
  simp only [word_f, Option.bind_some, hw, List.nil_append, List.length_append, List.length_nil]
  rw [if_pos (by omega), if_pos (by omega), if_pos (by omega), if_pos (by omega)]
  have e : (wordI ((p.length : Int) % 4294967296)) = wordI p.length := by
    simp only [wordI, List.cons.injEq, and_true]
    omega
  rw [e]
  have hs := sum_f (headI a b p.length ++ p) ((headI_bytes a b _).append hp) (by rw [List.length_append, headI_length]; omega) k (by rw [List.length_append, headI_length]; omega)
  unfold headI at hs
  rw [hs]
  simp only [Option.bind_some]
  rw [if_pos (by omega), if_pos (by omega)]
  rfl
theorem open_f {l : List Int} (hl : Bytes l) (hm : l.length ≤ 140737488351000) (a b : Int) (k : Nat) (hk : l.length + 20 < k) : seal_Open.f k a b l = some (openI a b l) := by
  unfold seal_Open.f openI
  by_cases h1 : (l.length : Int) < 16
  · rw [if_pos h1, if_pos h1]
  · rw [if_neg h1, if_neg h1, read_f hl (by omega) k (by omega)]
    have hr := readI_range hl (by omega)
    simp only [Option.bind_some]
    rw [wrap_of (readI l) (by omega) (by omega)]
    by_cases h2 : readI l > 1048576
    · rw [if_pos h2, if_pos h2]
    · rw [if_neg h2, if_neg h2, wrap_of (16 + readI l) (by omega) (by omega)]
      by_cases h3 : (l.length : Int) < 16 + readI l
      · rw [if_pos h3, if_pos h3]
      · rw [if_neg h3, if_neg h3, if_pos (by omega), read_f (hl.drop 12) (by rw [List.length_drop]; omega) k (by omega)]
        have hb : bodyI l = (l.take (16 + readI l).toNat).drop 16 := rfl
        have hbl : (bodyI l).length = (readI l).toNat := by rw [hb, List.length_drop, List.length_take]; omega
        have hbB : Bytes (bodyI l) := (hl.take _).drop _
        simp only [Option.bind_some, List.nil_append, List.length_nil, ← hb]
        rw [if_pos (by rw [List.length_take]; omega), if_pos (by omega), if_pos (by omega), if_pos (by rw [List.length_take, hbl]; omega)]
        rw [sum_f (l.take 12 ++ bodyI l) ((hl.take _).append hbB) (by rw [List.length_append, List.length_take, hbl]; omega) k (by rw [List.length_append, List.length_take, hbl]; omega)]
        simp only [Option.bind_some]
        by_cases h4 : readI (l.drop 12) = sumI (l.take 12 ++ bodyI l)
        · rw [if_pos h4, if_pos h4, if_pos (by omega), read_f (hl.drop 4) (by rw [List.length_drop]; omega) k (by omega)]
          simp only [Option.bind_some]
          by_cases h5 : readI (l.drop 4) = a
          · rw [if_pos h5, if_pos h5, if_pos (by omega), read_f (hl.drop 8) (by rw [List.length_drop]; omega) k (by omega)]
            simp only [Option.bind_some]
            by_cases h6 : readI (l.drop 8) = b
            · rw [if_pos h6, if_pos h6, if_pos (by rw [hbl]; omega)]
            · rw [if_neg h6, if_neg h6]
          · rw [if_neg h5, if_neg h5]
        · rw [if_neg h4, if_neg h4]
end Go.Proofs.YtifefhdinnechaaDoor.Pure
