/- Numbers as bytes of six bits: what putting them and taking them come to, as plain functions of lists. Each number is one of 64 bits. -/
import Derived.Test.YtinmndkhipfccaaPAx1
import Derived.Test.YtinmndkhipfccaaPAx17
import Derived.Test.YtinmndkhipfccaaPAx2
import Derived.Test.YtinmndkhipfccaaPAx3
import Derived.Test.YtinmndkhipfccaaPAx4
import Derived.Test.YtinmndkhipfccaaPAx6
import Derived.Test.YtinmndkhipfccaaPAx7
import Derived.OpenShut
import Derived.Laws.BitsAllLaws
import Derived.Lib.Bytes
namespace Go.Proofs.Ytinmndkhipfccaa.Pure
open Go.RowKit Go.Proofs.Ytinmndkhipfccaa.PA Go.Proofs.YtinmndkhipfccaaW.PrintWords Go.Proofs.YtinmndkhipfccaaW.PrintLast Go.Proofs.YtinmndkhipfccaaW.PrintMore

/-! ### a number's digits -/
def zz (n : Int) : Nat := if n < 0 then (-2 * n - 1).toNat else (2 * n).toNat
def enc (u : Nat) : List Int := if u < 64 then [(u : Int)] else ((u % 64 + 64 : Nat) : Int) :: enc (u / 64)
termination_by u
decreasing_by omega
def packI (n : Int) : List Int := enc (zz n)
def packsI (l : List Int) : List Int := l.flatMap packI
def I64 (n : Int) : Prop := -9223372036854775808 ≤ n ∧ n < 9223372036854775808

theorem enc_lt {u : Nat} (h : u < 64) : enc u = [(u : Int)] := by rw [enc, if_pos h]
theorem enc_ge {u : Nat} (h : ¬ u < 64) : enc u = ((u % 64 + 64 : Nat) : Int) :: enc (u / 64) := by rw [enc, if_neg h]
theorem enc_len : ∀ (k u : Nat), u < 64 ^ (k + 1) → (enc u).length ≤ k + 1
  | 0, u, h => by rw [enc_lt (by omega)]; simp
  | k + 1, u, h => by
    by_cases h1 : u < 64
    · rw [enc_lt h1]; simp
    · rw [enc_ge h1]
      have := enc_len k (u / 64) (by rw [Nat.div_lt_iff_lt_mul (by omega)]; rw [Nat.pow_succ] at h; omega)
      simp only [List.length_cons]
      omega
theorem enc_pos (u : Nat) : 1 ≤ (enc u).length := by
  by_cases h1 : u < 64
  · rw [enc_lt h1]; simp
  · rw [enc_ge h1]; simp
theorem zz_lt {n : Int} (h : I64 n) : zz n < 18446744073709551616 := by
  unfold I64 at h
  unfold zz
  split <;> omega
theorem packI_len {n : Int} (h : I64 n) : (packI n).length ≤ 11 := enc_len 10 _ (by have := zz_lt h; omega)
theorem packI_pos (n : Int) : 1 ≤ (packI n).length := enc_pos _
theorem packsI_cons (x : Int) (l : List Int) : packsI (x :: l) = packI x ++ packsI l := rfl
theorem packsI_append (a b : List Int) : packsI (a ++ b) = packsI a ++ packsI b := by simp [packsI]
theorem packsI_len {l : List Int} (h : ∀ x ∈ l, I64 x) : (packsI l).length ≤ 11 * l.length := by
  induction l with
  | nil => simp [packsI]
  | cons x l ih =>
    have h1 := packI_len (h x (by simp))
    have h2 := ih (fun y hy => h y (by simp [hy]))
    rw [packsI_cons, List.length_append, List.length_cons]
    omega
theorem enc_bytes : ∀ (u : Nat), ∀ x ∈ enc u, 0 ≤ x ∧ x < 128 := by
  intro u
  induction u using Nat.strongRecOn with
  | _ u ih =>
    intro x hx
    by_cases h1 : u < 64
    · rw [enc_lt h1] at hx
      simp only [List.mem_singleton] at hx
      omega
    · rw [enc_ge h1] at hx
      rcases List.mem_cons.1 hx with h | h
      · omega
      · exact ih (u / 64) (by omega) x h
theorem packI_bytes (n : Int) : ∀ x ∈ packI n, 0 ≤ x ∧ x < 128 := enc_bytes _
theorem packsI_bytes (l : List Int) : ∀ x ∈ packsI l, 0 ≤ x ∧ x < 128 := fun x hx => by
  obtain ⟨n, _, h⟩ := List.mem_flatMap.1 hx
  exact packI_bytes n x h

/-! ### words -/
theorem u64w (n : Int) : IntKind.u64.wrap n = n % 18446744073709551616 := by simp [IntKind.wrap, IntKind.bits, IntKind.signed]
theorem u64n (u : Nat) (h : u < 18446744073709551616) : IntKind.u64.wrap (u : Int) = (u : Int) := by rw [u64w]; omega
theorem i64_of {n : Int} (h : (Lit.int .i64 n).wf = true) : I64 n := by have := bounds_i64 h; unfold I64; omega
theorem xor_ones (a : Nat) (h : a < 18446744073709551616) : a ^^^ 18446744073709551615 = 18446744073709551615 - a := by
  apply Nat.eq_of_testBit_eq
  intro i
  have e1 := Nat.testBit_two_pow_sub_succ (x := a) (n := 64) h i
  have e2 := Nat.testBit_two_pow_sub_one 64 i
  rw [show 18446744073709551615 - a = 2 ^ 64 - (a + 1) by omega, e1, Nat.testBit_xor, show (18446744073709551615 : Nat) = 2 ^ 64 - 1 by decide, e2]
  by_cases hi : i < 64
  · simp [hi]
  · have h2 : 2 ^ 64 ≤ 2 ^ i := Nat.pow_le_pow_right (by decide) (by omega)
    have : a.testBit i = false := Nat.testBit_lt_two_pow (by omega)
    simp [hi, this]
theorem zz_bits {n : Int} (h : I64 n) : Go.bits .xor .u64 (IntKind.u64.wrap ((IntKind.u64.wrap n) * 2)) (IntKind.u64.wrap (n / 9223372036854775808)) = (zz n : Int) := by
  unfold I64 at h
  simp only [u64w]
  by_cases h0 : n < 0
  · have e1 : n / 9223372036854775808 % 18446744073709551616 = ((18446744073709551615 : Nat) : Int) := by omega
    have e2 : n % 18446744073709551616 * 2 % 18446744073709551616 = (((18446744073709551616 + 2 * n).toNat : Nat) : Int) := by omega
    rw [e1, e2, u64_xor_nat _ _ (by omega) (by decide), xor_ones _ (by omega)]
    unfold zz
    rw [if_pos h0]
    omega
  · have e1 : n / 9223372036854775808 % 18446744073709551616 = ((0 : Nat) : Int) := by omega
    have e2 : n % 18446744073709551616 * 2 % 18446744073709551616 = (((2 * n).toNat : Nat) : Int) := by omega
    rw [e1, e2, u64_xor_nat _ _ (by omega) (by decide), Nat.xor_zero]
    unfold zz
    rw [if_neg h0]
theorem or64 (u : Nat) : Go.bits .or .u8 ((Int.tmod (u : Int) 64) % 256) 64 = ((u % 64 + 64 : Nat) : Int) := by
  have e : (Int.tmod (u : Int) 64) % 256 = ((u % 64 : Nat) : Int) := by rw [Int.tmod_eq_emod_of_nonneg (by omega)]; omega
  rw [e, show (64 : Int) = ((64 : Nat) : Int) from rfl, u8_or_nat _ _ (by omega) (by decide)]
  have := Nat.two_pow_add_eq_or_of_lt (i := 6) (b := u % 64) (by omega) 1
  rw [Nat.or_comm] at this
  simp only [Nat.reducePow, Nat.mul_one] at this
  omega
theorem div64 (u : Nat) (h : u < 18446744073709551616) : IntKind.u64.wrap (Int.tdiv (u : Int) 64) = ((u / 64 : Nat) : Int) := by
  rw [Int.tdiv_eq_ediv_of_nonneg (by omega), show (u : Int) / 64 = ((u / 64 : Nat) : Int) by omega, u64n _ (by omega)]

/-! ### Put -/
theorem put_l1 {l : List Int} {n i e : Int} {r : List Int × Int} : ∀ (u : Nat), u < 18446744073709551616 → ∀ p : List Int, p.length + (enc u).length < 140737488355328 →
    Ev (fun k => pack_Box_Put.l0 k l n (wrap64 (i + 1)) (p ++ enc u) e) r → Ev (fun k => pack_Box_Put.l1 k (u : Int) l n i p e) r := by
  intro u
  induction u using Nat.strongRecOn with
  | _ u ih =>
    intro hu p hp h
    by_cases h1 : u < 64
    · rw [enc_lt h1] at h hp
      simp only [List.length_singleton] at hp
      refine Ev.step (f := fun k => pack_Box_Put.l0 k l n (wrap64 (i + 1)) (p ++ [(u : Int)]) e) (fun k => ?_) h
      simp only [pack_Box_Put.l1]
      rw [if_neg (by omega), if_pos (by omega), show (u : Int) % 256 = (u : Int) by omega]
    · rw [enc_ge h1] at h hp
      simp only [List.length_cons] at hp
      refine Ev.step (f := fun k => pack_Box_Put.l1 k ((u / 64 : Nat) : Int) l n i (p ++ [((u % 64 + 64 : Nat) : Int)]) e) (fun k => ?_) (ih (u / 64) (by omega) (by omega) _ (by simp only [List.length_append, List.length_singleton]; omega) (by rw [List.append_assoc, List.singleton_append]; exact h))
      simp only [pack_Box_Put.l1]
      rw [if_pos (by omega), if_pos (by omega), or64, div64 u hu]
theorem wrap_one (i : Nat) (h : i < 9223372036854775807) : wrap64 ((i : Int) + 1) = ((i + 1 : Nat) : Int) := by unfold wrap64; omega
theorem rd_nat (l : List Int) (i : Nat) (h : i < l.length) : rd l (i : Int) = l[i] := by simp [rd, h]
theorem put_l0 {l : List Int} {e : Int} (hl : ∀ x ∈ l, I64 x) (hm : l.length ≤ 9223372036854775807) : ∀ (d i : Nat), i + d = l.length → ∀ p : List Int, p.length + 11 * d < 140737488355328 →
    Ev (fun k => pack_Box_Put.l0 k l (l.length : Int) (i : Int) p e) (p ++ packsI (l.drop i), e) := by
  intro d
  induction d with
  | zero =>
    intro i hi p hp
    refine Ev.step (f := fun _ => some (p ++ packsI (l.drop i), e)) (fun k => ?_) (Ev.now _)
    simp only [pack_Box_Put.l0]
    rw [if_neg (by omega), List.drop_eq_nil_of_le (by omega)]
    simp [packsI]
  | succ d ih =>
    intro i hi p hp
    have hlt : i < l.length := by omega
    have hx : I64 l[i] := hl _ (List.getElem_mem hlt)
    have hz := zz_lt hx
    have hle := packI_len hx
    have hd : packsI (l.drop i) = packI l[i] ++ packsI (l.drop (i + 1)) := by rw [List.drop_eq_getElem_cons hlt, packsI_cons]
    refine Ev.step (f := fun k => pack_Box_Put.l1 k ((zz l[i] : Nat) : Int) l (l.length : Int) (i : Int) p e) (fun k => ?_) (put_l1 _ hz _ (by unfold packI at hle; omega) ?_)
    · simp only [pack_Box_Put.l0]
      rw [if_pos (by omega), if_pos (by omega), if_pos (by omega), rd_nat l i hlt, zz_bits hx]
    · have := ih (i + 1) (by omega) (p ++ enc (zz l[i])) (by rw [List.length_append]; unfold packI at hle; omega)
      rw [hd, ← List.append_assoc]
      rw [wrap_one i (by omega)]
      exact this
theorem put_ev {l : List Int} (hl : ∀ x ∈ l, I64 x) (p : List Int) (e : Int) (hp : p.length + 11 * l.length < 140737488355328) : Ev (fun k => pack_Box_Put.f k p e l) (p ++ packsI l, e) := by
  have := put_l0 (e := e) hl (by omega) l.length 0 (by omega) p (by omega)
  simpa [pack_Box_Put.f] using this
theorem done_f (p : List Int) (e : Int) (h : p.length < 140737488355328) : pack_Box_Done.f p e = some (p, p, e) := by
  unfold pack_Box_Done.f
  rw [if_pos (by simpa using h)]
  simp
theorem of_f (p : List Int) (h : p.length < 140737488355328) : pack_Of.f p = some (p, 0) := by
  unfold pack_Of.f
  rw [if_pos (by simpa using h)]
  simp

/-! ### the reference's -/
theorem pack_l0 : ∀ (u : Nat), u < 18446744073709551616 → ∀ p : List Int, p.length + (enc u).length < 140737488355328 → Ev (fun k => paybookref05_Pack.l0 k (u : Int) p) (p ++ enc u) := by
  intro u
  induction u using Nat.strongRecOn with
  | _ u ih =>
    intro hu p hp
    by_cases h1 : u < 64
    · rw [enc_lt h1] at hp ⊢
      simp only [List.length_singleton] at hp
      refine Ev.step (f := fun _ => some (p ++ [(u : Int)])) (fun k => ?_) (Ev.now _)
      simp only [paybookref05_Pack.l0]
      rw [if_neg (by omega), if_pos (by omega), show (u : Int) % 256 = (u : Int) by omega]
    · rw [enc_ge h1] at hp ⊢
      simp only [List.length_cons] at hp
      have := ih (u / 64) (by omega) (by omega) (p ++ [((u % 64 + 64 : Nat) : Int)]) (by simp only [List.length_append, List.length_singleton]; omega)
      rw [List.append_assoc, List.singleton_append] at this
      refine Ev.step (f := fun k => paybookref05_Pack.l0 k ((u / 64 : Nat) : Int) (p ++ [((u % 64 + 64 : Nat) : Int)])) (fun k => ?_) this
      simp only [paybookref05_Pack.l0]
      rw [if_pos (by omega), if_pos (by omega), div64 u hu, Int.tmod_eq_emod_of_nonneg (by omega), show ((u : Int) % 64 + 64) % 256 = ((u % 64 + 64 : Nat) : Int) by omega]
theorem pack_ev {n : Int} (h : I64 n) : Ev (fun k => paybookref05_Pack.f k n) (packI n) := by
  have hz := zz_lt h
  have hl := packI_len h
  have e : ∀ k, paybookref05_Pack.f k n = paybookref05_Pack.j0 k (zz n : Int) := by
    intro k
    unfold I64 at h
    unfold paybookref05_Pack.f zz
    by_cases h0 : n < 0
    · rw [if_pos h0, if_pos h0]
      congr 1
      simp only [u64w]
      unfold wrap64
      omega
    · rw [if_neg h0, if_neg h0]
      congr 1
      simp only [u64w]
      omega
  refine Ev.congr e (Ev.step (f := fun k => paybookref05_Pack.l0 k (zz n : Int) []) (fun k => by simp only [paybookref05_Pack.j0]) ?_)
  have := pack_l0 _ hz [] (by unfold packI at hl; simp only [List.length_nil]; omega)
  simpa [packI] using this
theorem packs_l0 {l : List Int} (hl : ∀ x ∈ l, I64 x) (hm : l.length ≤ 9223372036854775807) : ∀ (d i : Nat), i + d = l.length → ∀ p : List Int, p.length + 11 * d < 140737488355328 →
    Ev (fun k => paybookref05_Packs.l0 k l p (i : Int)) (p ++ packsI (l.drop i)) := by
  intro d
  induction d with
  | zero =>
    intro i hi p hp
    refine Ev.step (f := fun _ => some (p ++ packsI (l.drop i))) (fun k => ?_) (Ev.now _)
    simp only [paybookref05_Packs.l0]
    rw [if_neg (by omega), List.drop_eq_nil_of_le (by omega)]
    simp [packsI]
  | succ d ih =>
    intro i hi p hp
    have hlt : i < l.length := by omega
    have hx : I64 l[i] := hl _ (List.getElem_mem hlt)
    have hle := packI_len hx
    have hd : packsI (l.drop i) = packI l[i] ++ packsI (l.drop (i + 1)) := by rw [List.drop_eq_getElem_cons hlt, packsI_cons]
    have h1 := ih (i + 1) (by omega) (p ++ packI l[i]) (by rw [List.length_append]; omega)
    rw [hd, ← List.append_assoc]
    refine Ev.step (f := fun k => (paybookref05_Pack.f k l[i]).bind fun t => if p.length + t.length < 140737488355328 then paybookref05_Packs.l0 k l (p ++ t) (wrap64 ((i : Int) + 1)) else none) (fun k => ?_) (Ev.bind (pack_ev hx) ?_)
    · simp only [paybookref05_Packs.l0]
      rw [if_pos (by omega), if_pos (by omega), rd_nat l i hlt]
    · rw [wrap_one i (by omega)]
      refine Ev.congr (fun k => if_pos (by omega)) h1
theorem packs_ev {l : List Int} (hl : ∀ x ∈ l, I64 x) (hm : 11 * l.length < 140737488355328) : Ev (fun k => paybookref05_Packs.f k l) (packsI l) := by
  have := packs_l0 hl (by omega) l.length 0 (by omega) [] (by simp; omega)
  simpa [paybookref05_Packs.f] using this
theorem new_f : pack_New.f = some ([], 0) := rfl
theorem awake_ev : Ev paybooklaw05_awake.f true := by
  unfold paybooklaw05_awake.f
  rw [new_f]
  simp only [Option.bind_some]
  have h := put_ev (l := [5, -1, 100]) (by intro x hx; simp only [List.mem_cons, List.not_mem_nil, or_false] at hx; unfold I64; omega) [] 0 (by simp)
  refine Ev.bind h ?_
  refine Ev.congr (f := fun _ => some true) (fun k => ?_) (Ev.now _)
  have e : packsI [5, -1, 100] = [10, 1, 72, 3] := by
    have h1 : packI 5 = [10] := by unfold packI; rw [show zz 5 = 10 from rfl, enc_lt (by omega)]; rfl
    have h2 : packI (-1) = [1] := by unfold packI; rw [show zz (-1) = 1 from rfl, enc_lt (by omega)]; rfl
    have h3 : packI 100 = [72, 3] := by unfold packI; rw [show zz 100 = 200 from rfl, enc_ge (by omega), enc_lt (by omega)]; rfl
    rw [packsI_cons, packsI_cons, packsI_cons, h1, h2, h3]
    rfl
  rw [e, done_f _ _ (by simp)]
  simp only [Option.bind_some, List.nil_append]
  rw [Lib.strOfNums_toList]
  rfl
end Go.Proofs.Ytinmndkhipfccaa.Pure
