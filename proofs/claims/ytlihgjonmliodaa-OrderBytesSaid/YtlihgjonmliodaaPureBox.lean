-- one text of several: PurePack PureGet PureBack PureTake
import Derived.Test.YtlihgjonmliodaaPAx10
import Derived.Test.YtlihgjonmliodaaPAx11
import Derived.Test.YtlihgjonmliodaaPAx12
import Derived.Test.YtlihgjonmliodaaPAx21
import Derived.Test.YtlihgjonmliodaaPAx22
import Derived.Test.YtlihgjonmliodaaPAx23
import Derived.Test.YtlihgjonmliodaaPAx24
import Derived.Test.YtlihgjonmliodaaPAx26
import Derived.Test.YtlihgjonmliodaaPAx28
import Derived.Test.YtlihgjonmliodaaPAx29
import Derived.OpenShut
import Derived.Laws.BitsAllLaws
import Derived.Lib.Bytes
namespace Go.Proofs.Ytlihgjonmliodaa.Pure
open Go.RowKit Go.Proofs.Ytlihgjonmliodaa.PA Go.Proofs.YtlihgjonmliodaaW.PrintWords Go.Proofs.YtlihgjonmliodaaW.PrintLast Go.Proofs.YtlihgjonmliodaaW.PrintMore
section

/-! ### a number's digits -/
def zz (n : Int) : Nat := if n < 0 then (-2 * n - 1).toNat else (2 * n).toNat
def enc (u : Nat) : List Int := if u < 64 then [(u : Int)] else ((u % 64 + 64 : Nat) : Int) :: enc (u / 64)
termination_by u
decreasing_by omega
def packI (n : Int) : List Int := enc (zz n)
def packsI (l : List Int) : List Int := l.flatMap packI
def I64 (n : Int) : Prop := -9223372036854775808 ≤ n ∧ n < 9223372036854775808

theorem enc_lt {u : Nat} (h : u < 64) : enc u = [(u : Int)] := by rw [enc, if_pos h]
theorem enc_ge {u : Nat} (h : ¬ u < 64) : enc u = ((u % 64 + 64 : Nat) : Int) :: enc (u / 64) := by rw [enc, if_neg h]
theorem enc_len : ∀ (k u : Nat), u < 64 ^ (k + 1) → (enc u).length ≤ k + 1
  | 0, u, h => by rw [enc_lt (by omega)]; simp
  | k + 1, u, h => by
    by_cases h1 : u < 64
    · rw [enc_lt h1]; simp
    · rw [enc_ge h1]
      have := enc_len k (u / 64) (by rw [Nat.div_lt_iff_lt_mul (by omega)]; rw [Nat.pow_succ] at h; omega)
      simp only [List.length_cons]
      omega
theorem enc_pos (u : Nat) : 1 ≤ (enc u).length := by
  by_cases h1 : u < 64
  · rw [enc_lt h1]; simp
  · rw [enc_ge h1]; simp
theorem zz_lt {n : Int} (h : I64 n) : zz n < 18446744073709551616 := by
  unfold I64 at h
  unfold zz
  split <;> omega
theorem packI_len {n : Int} (h : I64 n) : (packI n).length ≤ 11 := enc_len 10 _ (by have := zz_lt h; omega)
theorem packI_pos (n : Int) : 1 ≤ (packI n).length := enc_pos _
theorem packsI_cons (x : Int) (l : List Int) : packsI (x :: l) = packI x ++ packsI l := rfl
theorem packsI_append (a b : List Int) : packsI (a ++ b) = packsI a ++ packsI b := by simp [packsI]
theorem packsI_len {l : List Int} (h : ∀ x ∈ l, I64 x) : (packsI l).length ≤ 11 * l.length := by
  induction l with
  | nil => simp [packsI]
  | cons x l ih =>
    have h1 := packI_len (h x (by simp))
    have h2 := ih (fun y hy => h y (by simp [hy]))
    rw [packsI_cons, List.length_append, List.length_cons]
    omega
theorem enc_bytes : ∀ (u : Nat), ∀ x ∈ enc u, 0 ≤ x ∧ x < 128 := by
  intro u
  induction u using Nat.strongRecOn with
  | _ u ih =>
    intro x hx
    by_cases h1 : u < 64
    · rw [enc_lt h1] at hx
      simp only [List.mem_singleton] at hx
      omega
    · rw [enc_ge h1] at hx
      rcases List.mem_cons.1 hx with h | h
      · omega
      · exact ih (u / 64) (by omega) x h
theorem packI_bytes (n : Int) : ∀ x ∈ packI n, 0 ≤ x ∧ x < 128 := enc_bytes _
theorem packsI_bytes (l : List Int) : ∀ x ∈ packsI l, 0 ≤ x ∧ x < 128 := fun x hx => by
  obtain ⟨n, _, h⟩ := List.mem_flatMap.1 hx
  exact packI_bytes n x h

/-! ### words -/
theorem wu64 (n : Int) : IntKind.u64.wrap n = n % 18446744073709551616 := by simp [IntKind.wrap, IntKind.bits, IntKind.signed]
theorem wu64n (u : Nat) (h : u < 18446744073709551616) : IntKind.u64.wrap (u : Int) = (u : Int) := by rw [wu64]; omega
theorem i64_of {n : Int} (h : (Lit.int .i64 n).wf = true) : I64 n := by have := bounds_i64 h; unfold I64; omega
theorem xor_ones (a : Nat) (h : a < 18446744073709551616) : a ^^^ 18446744073709551615 = 18446744073709551615 - a := by
  apply Nat.eq_of_testBit_eq
  intro i
  have e1 := Nat.testBit_two_pow_sub_succ (x := a) (n := 64) h i
  have e2 := Nat.testBit_two_pow_sub_one 64 i
  rw [show 18446744073709551615 - a = 2 ^ 64 - (a + 1) by omega, e1, Nat.testBit_xor, show (18446744073709551615 : Nat) = 2 ^ 64 - 1 by decide, e2]
  by_cases hi : i < 64
  · simp [hi]
  · have h2 : 2 ^ 64 ≤ 2 ^ i := Nat.pow_le_pow_right (by decide) (by omega)
    have : a.testBit i = false := Nat.testBit_lt_two_pow (by omega)
    simp [hi, this]
theorem zz_bits {n : Int} (h : I64 n) : Go.bits .xor .u64 (IntKind.u64.wrap ((IntKind.u64.wrap n) * 2)) (IntKind.u64.wrap (n / 9223372036854775808)) = (zz n : Int) := by
  unfold I64 at h
  simp only [wu64]
  by_cases h0 : n < 0
  · have e1 : n / 9223372036854775808 % 18446744073709551616 = ((18446744073709551615 : Nat) : Int) := by omega
    have e2 : n % 18446744073709551616 * 2 % 18446744073709551616 = (((18446744073709551616 + 2 * n).toNat : Nat) : Int) := by omega
    rw [e1, e2, u64_xor_nat _ _ (by omega) (by decide), xor_ones _ (by omega)]
    unfold zz
    rw [if_pos h0]
    omega
  · have e1 : n / 9223372036854775808 % 18446744073709551616 = ((0 : Nat) : Int) := by omega
    have e2 : n % 18446744073709551616 * 2 % 18446744073709551616 = (((2 * n).toNat : Nat) : Int) := by omega
    rw [e1, e2, u64_xor_nat _ _ (by omega) (by decide), Nat.xor_zero]
    unfold zz
    rw [if_neg h0]
theorem or64 (u : Nat) : Go.bits .or .u8 ((Int.tmod (u : Int) 64) % 256) 64 = ((u % 64 + 64 : Nat) : Int) := by
  have e : (Int.tmod (u : Int) 64) % 256 = ((u % 64 : Nat) : Int) := by rw [Int.tmod_eq_emod_of_nonneg (by omega)]; omega
  rw [e, show (64 : Int) = ((64 : Nat) : Int) from rfl, u8_or_nat _ _ (by omega) (by decide)]
  have := Nat.two_pow_add_eq_or_of_lt (i := 6) (b := u % 64) (by omega) 1
  rw [Nat.or_comm] at this
  simp only [Nat.reducePow, Nat.mul_one] at this
  omega
theorem div64 (u : Nat) (h : u < 18446744073709551616) : IntKind.u64.wrap (Int.tdiv (u : Int) 64) = ((u / 64 : Nat) : Int) := by
  rw [Int.tdiv_eq_ediv_of_nonneg (by omega), show (u : Int) / 64 = ((u / 64 : Nat) : Int) by omega, wu64n _ (by omega)]

/-! ### Put -/
theorem put_l1 {l : List Int} {n i e : Int} {r : List Int × Int} : ∀ (u : Nat), u < 18446744073709551616 → ∀ p : List Int, p.length + (enc u).length < 140737488355328 →
    Ev (fun k => pack_Box_Put.l0 k l n (wrap64 (i + 1)) (p ++ enc u) e) r → Ev (fun k => pack_Box_Put.l1 k (u : Int) l n i p e) r := by
  intro u
  induction u using Nat.strongRecOn with
  | _ u ih =>
    intro hu p hp h
    by_cases h1 : u < 64
    · rw [enc_lt h1] at h hp
      simp only [List.length_singleton] at hp
      refine Ev.step (f := fun k => pack_Box_Put.l0 k l n (wrap64 (i + 1)) (p ++ [(u : Int)]) e) (fun k => ?_) h
      simp only [pack_Box_Put.l1]
      rw [if_neg (by omega), if_pos (by omega), show (u : Int) % 256 = (u : Int) by omega]
    · rw [enc_ge h1] at h hp
      simp only [List.length_cons] at hp
      refine Ev.step (f := fun k => pack_Box_Put.l1 k ((u / 64 : Nat) : Int) l n i (p ++ [((u % 64 + 64 : Nat) : Int)]) e) (fun k => ?_) (ih (u / 64) (by omega) (by omega) _ (by simp only [List.length_append, List.length_singleton]; omega) (by rw [List.append_assoc, List.singleton_append]; exact h))
      simp only [pack_Box_Put.l1]
      rw [if_pos (by omega), if_pos (by omega), or64, div64 u hu]
theorem wrap_one (i : Nat) (h : i < 9223372036854775807) : wrap64 ((i : Int) + 1) = ((i + 1 : Nat) : Int) := by unfold wrap64; omega
theorem rd_nat (l : List Int) (i : Nat) (h : i < l.length) : rd l (i : Int) = l[i] := by simp [rd, h]
theorem put_l0 {l : List Int} {e : Int} (hl : ∀ x ∈ l, I64 x) (hm : l.length ≤ 9223372036854775807) : ∀ (d i : Nat), i + d = l.length → ∀ p : List Int, p.length + 11 * d < 140737488355328 →
    Ev (fun k => pack_Box_Put.l0 k l (l.length : Int) (i : Int) p e) (p ++ packsI (l.drop i), e) := by
  intro d
  induction d with
  | zero =>
    intro i hi p hp
    refine Ev.step (f := fun _ => some (p ++ packsI (l.drop i), e)) (fun k => ?_) (Ev.now _)
    simp only [pack_Box_Put.l0]
    rw [if_neg (by omega), List.drop_eq_nil_of_le (by omega)]
    simp [packsI]
  | succ d ih =>
    intro i hi p hp
    have hlt : i < l.length := by omega
    have hx : I64 l[i] := hl _ (List.getElem_mem hlt)
    have hz := zz_lt hx
    have hle := packI_len hx
    have hd : packsI (l.drop i) = packI l[i] ++ packsI (l.drop (i + 1)) := by rw [List.drop_eq_getElem_cons hlt, packsI_cons]
    refine Ev.step (f := fun k => pack_Box_Put.l1 k ((zz l[i] : Nat) : Int) l (l.length : Int) (i : Int) p e) (fun k => ?_) (put_l1 _ hz _ (by unfold packI at hle; omega) ?_)
    · simp only [pack_Box_Put.l0]
      rw [if_pos (by omega), if_pos (by omega), if_pos (by omega), rd_nat l i hlt, zz_bits hx]
    · have := ih (i + 1) (by omega) (p ++ enc (zz l[i])) (by rw [List.length_append]; unfold packI at hle; omega)
      rw [hd, ← List.append_assoc]
      rw [wrap_one i (by omega)]
      exact this
theorem put_ev {l : List Int} (hl : ∀ x ∈ l, I64 x) (p : List Int) (e : Int) (hp : p.length + 11 * l.length < 140737488355328) : Ev (fun k => pack_Box_Put.f k p e l) (p ++ packsI l, e) := by
  have := put_l0 (e := e) hl (by omega) l.length 0 (by omega) p (by omega)
  simpa [pack_Box_Put.f] using this
theorem done_f (p : List Int) (e : Int) (h : p.length < 140737488355328) : pack_Box_Done.f p e = some (p, p, e) := by
  unfold pack_Box_Done.f
  rw [if_pos (by simpa using h)]
  simp
theorem of_f (p : List Int) (h : p.length < 140737488355328) : pack_Of.f p = some (p, 0) := by
  unfold pack_Of.f
  rw [if_pos (by simpa using h)]
  simp

/-! ### the reference's -/
theorem pack_l0 : ∀ (u : Nat), u < 18446744073709551616 → ∀ p : List Int, p.length + (enc u).length < 140737488355328 → Ev (fun k => paybookref05_Pack.l0 k (u : Int) p) (p ++ enc u) := by
  intro u
  induction u using Nat.strongRecOn with
  | _ u ih =>
    intro hu p hp
    by_cases h1 : u < 64
    · rw [enc_lt h1] at hp ⊢
      simp only [List.length_singleton] at hp
      refine Ev.step (f := fun _ => some (p ++ [(u : Int)])) (fun k => ?_) (Ev.now _)
      simp only [paybookref05_Pack.l0]
      rw [if_neg (by omega), if_pos (by omega), show (u : Int) % 256 = (u : Int) by omega]
    · rw [enc_ge h1] at hp ⊢
      simp only [List.length_cons] at hp
      have := ih (u / 64) (by omega) (by omega) (p ++ [((u % 64 + 64 : Nat) : Int)]) (by simp only [List.length_append, List.length_singleton]; omega)
      rw [List.append_assoc, List.singleton_append] at this
      refine Ev.step (f := fun k => paybookref05_Pack.l0 k ((u / 64 : Nat) : Int) (p ++ [((u % 64 + 64 : Nat) : Int)])) (fun k => ?_) this
      simp only [paybookref05_Pack.l0]
      rw [if_pos (by omega), if_pos (by omega), div64 u hu, Int.tmod_eq_emod_of_nonneg (by omega), show ((u : Int) % 64 + 64) % 256 = ((u % 64 + 64 : Nat) : Int) by omega]
theorem pack_ev {n : Int} (h : I64 n) : Ev (fun k => paybookref05_Pack.f k n) (packI n) := by
  have hz := zz_lt h
  have hl := packI_len h
  have e : ∀ k, paybookref05_Pack.f k n = paybookref05_Pack.j0 k (zz n : Int) := by
    intro k
    unfold I64 at h
    unfold paybookref05_Pack.f zz
    by_cases h0 : n < 0
    · rw [if_pos h0, if_pos h0]
      congr 1
      simp only [wu64]
      unfold wrap64
      omega
    · rw [if_neg h0, if_neg h0]
      congr 1
      simp only [wu64]
      omega
  refine Ev.congr e (Ev.step (f := fun k => paybookref05_Pack.l0 k (zz n : Int) []) (fun k => by simp only [paybookref05_Pack.j0]) ?_)
  have := pack_l0 _ hz [] (by unfold packI at hl; simp only [List.length_nil]; omega)
  simpa [packI] using this
theorem packs_l0 {l : List Int} (hl : ∀ x ∈ l, I64 x) (hm : l.length ≤ 9223372036854775807) : ∀ (d i : Nat), i + d = l.length → ∀ p : List Int, p.length + 11 * d < 140737488355328 →
    Ev (fun k => paybookref05_Packs.l0 k l p (i : Int)) (p ++ packsI (l.drop i)) := by
  intro d
  induction d with
  | zero =>
    intro i hi p hp
    refine Ev.step (f := fun _ => some (p ++ packsI (l.drop i))) (fun k => ?_) (Ev.now _)
    simp only [paybookref05_Packs.l0]
    rw [if_neg (by omega), List.drop_eq_nil_of_le (by omega)]
    simp [packsI]
  | succ d ih =>
    intro i hi p hp
    have hlt : i < l.length := by omega
    have hx : I64 l[i] := hl _ (List.getElem_mem hlt)
    have hle := packI_len hx
    have hd : packsI (l.drop i) = packI l[i] ++ packsI (l.drop (i + 1)) := by rw [List.drop_eq_getElem_cons hlt, packsI_cons]
    have h1 := ih (i + 1) (by omega) (p ++ packI l[i]) (by rw [List.length_append]; omega)
    rw [hd, ← List.append_assoc]
    refine Ev.step (f := fun k => (paybookref05_Pack.f k l[i]).bind fun t => if p.length + t.length < 140737488355328 then paybookref05_Packs.l0 k l (p ++ t) (wrap64 ((i : Int) + 1)) else none) (fun k => ?_) (Ev.bind (pack_ev hx) ?_)
    · simp only [paybookref05_Packs.l0]
      rw [if_pos (by omega), if_pos (by omega), rd_nat l i hlt]
    · rw [wrap_one i (by omega)]
      refine Ev.congr (fun k => if_pos (by omega)) h1
theorem packs_ev {l : List Int} (hl : ∀ x ∈ l, I64 x) (hm : 11 * l.length < 140737488355328) : Ev (fun k => paybookref05_Packs.f k l) (packsI l) := by
  have := packs_l0 hl (by omega) l.length 0 (by omega) [] (by simp; omega)
  simpa [paybookref05_Packs.f] using this
theorem new_f : pack_New.f = some ([], 0) := rfl
end

section

def Byt (l : List Int) : Prop := ∀ x ∈ l, 0 ≤ x ∧ x < 256
theorem byt_of {l : List Int} (h : ∀ x ∈ l, (Lit.int .u8 x).wf = true) : Byt l := fun x hx => by have := bounds_u8 (h x hx); omega
theorem Byt.append {a b : List Int} (ha : Byt a) (hb : Byt b) : Byt (a ++ b) := fun x hx => by
  rcases List.mem_append.1 hx with h | h
  · exact ha x h
  · exact hb x h
theorem Byt.take {a : List Int} (ha : Byt a) (n : Nat) : Byt (a.take n) := fun x hx => ha x (List.mem_of_mem_take hx)
theorem Byt.drop {a : List Int} (ha : Byt a) (n : Nat) : Byt (a.drop n) := fun x hx => ha x (List.mem_of_mem_drop hx)
theorem packI_byt (n : Int) : Byt (packI n) := fun x hx => by have := packI_bytes n x hx; omega
theorem packsI_byt (l : List Int) : Byt (packsI l) := fun x hx => by have := packsI_bytes l x hx; omega
theorem str_inj {a b : List Int} (ha : Byt a) (hb : Byt b) : (strOfNums a).toList = (strOfNums b).toList ↔ a = b := by
  refine ⟨fun h => ?_, fun h => by rw [h]⟩
  rw [Lib.strOfNums_toList, Lib.strOfNums_toList] at h
  unfold Lib.bytesOf at h
  have hl : a.length = b.length := by simpa using congrArg List.length h
  apply List.ext_getElem hl
  intro i h1 h2
  have := congrArg (fun l => l[i]?) h
  simp only [List.getElem?_map, List.getElem?_eq_getElem h1, List.getElem?_eq_getElem h2, Option.map_some, Option.some.injEq] at this
  have h3 := ha _ (List.getElem_mem h1)
  have h4 := hb _ (List.getElem_mem h2)
  have h5 := congrArg UInt8.toNat this
  simp only [UInt8.toNat_ofNat'] at h5
  omega
theorem str_beq {a b : List Int} (ha : Byt a) (hb : Byt b) : ((strOfNums a).toList == (strOfNums b).toList) = decide (a = b) := by
  rw [Bool.eq_iff_iff, beq_iff_eq, decide_eq_true_iff, str_inj ha hb]

/-! ### one number -/
def unzz (u : Nat) : Int := if u % 2 = 0 then ((u / 2 : Nat) : Int) else -((u / 2 : Nat) : Int) - 1
theorem unzz_zz (n : Int) : unzz (zz n) = n := by
  unfold unzz zz
  by_cases h : n < 0
  · rw [if_pos h, if_neg (by omega)]; omega
  · rw [if_neg h, if_pos (by omega)]; omega
theorem zz_inj {a b : Int} (h : zz a = zz b) : a = b := by rw [← unzz_zz a, h, unzz_zz]
/-- The error's number, the digits' number, how many they are. -/
def parse : Nat → Nat → List Int → Int × Nat × Nat
  | _, _, [] => (5, 0, 0)
  | i, u, c :: cs =>
    if c ≥ 128 ∨ (i = 10 ∧ c ≥ 16) ∨ (i > 0 ∧ c = 0) then (4, 0, 0)
    else if c ≥ 64 then parse (i + 1) (u + (c % 64).toNat * 64 ^ i) cs
    else (0, u + (c % 64).toNat * 64 ^ i, i + 1)
def getI (p : List Int) (e least most : Int) : Int × List Int × Int :=
  if e ≠ 0 then (0, p, e) else
  match parse 0 0 p with
  | (f, u, n) => if f ≠ 0 then (0, p, f) else if unzz u < least ∨ unzz u > most then (0, p, 1) else (unzz u, p.drop n, 0)

theorem pow_lt (i : Nat) (h : i ≤ 10) : 64 ^ i ≤ 1152921504606846976 := by
  have := Nat.pow_le_pow_right (n := 64) (by decide) h
  simpa using this
theorem u64_lt (i u : Nat) (c : Int) (hi : i ≤ 10) (hu : u < 64 ^ i) (h0 : 0 ≤ c) (h1 : ¬ (i = 10 ∧ c ≥ 16)) : u + (c % 64).toNat * 64 ^ i < 18446744073709551616 := by
  by_cases h : i = 10
  · subst h
    have h2 : (c % 64).toNat ≤ 15 := by omega
    have := Nat.mul_le_mul_right (64 ^ 10) h2
    simp only [Nat.reducePow] at *
    omega
  · have h2 : (c % 64).toNat ≤ 63 := by omega
    have h3 := Nat.mul_le_mul_right (64 ^ i) h2
    have h4 : 64 ^ i ≤ 64 ^ 9 := Nat.pow_le_pow_right (by decide) (by omega)
    simp only [Nat.reducePow] at *
    omega
theorem next_lt (i u : Nat) (c : Int) (hu : u < 64 ^ i) : u + (c % 64).toNat * 64 ^ i < 64 ^ (i + 1) := by
  have h2 : (c % 64).toNat ≤ 63 := by omega
  have h3 := Nat.mul_le_mul_right (64 ^ i) h2
  rw [Nat.pow_succ]
  omega
theorem digit (i u : Nat) (c : Int) (hi : i ≤ 10) (hu : u < 64 ^ i) (h0 : 0 ≤ c) (h1 : ¬ (i = 10 ∧ c ≥ 16)) :
    Go.bits .or .u64 (u : Int) (shl .u64 (IntKind.u64.wrap (Int.tmod c 64)) (wrap64 (6 * (i : Int)))) = ((u + (c % 64).toNat * 64 ^ i : Nat) : Int) := by
  have hb := u64_lt i u c hi hu h0 h1
  have hp := pow_lt i hi
  have e1 : IntKind.u64.wrap (Int.tmod c 64) = (((c % 64).toNat : Nat) : Int) := by rw [Int.tmod_eq_emod_of_nonneg h0, wu64]; omega
  have e2 : wrap64 (6 * (i : Int)) = ((6 * i : Nat) : Int) := by unfold wrap64; omega
  have e3 : shl .u64 (((c % 64).toNat : Nat) : Int) ((6 * i : Nat) : Int) = (((c % 64).toNat * 64 ^ i : Nat) : Int) := by
    unfold shl
    rw [Int.toNat_natCast, show min (6 * i) IntKind.u64.bits = 6 * i from Nat.min_eq_left (by show 6 * i ≤ 64; omega)]
    have e4 : (2 : Int) ^ (6 * i) = ((64 ^ i : Nat) : Int) := by rw [Int.pow_mul]; simp
    rw [e4, show (((c % 64).toNat : Nat) : Int) * ((64 ^ i : Nat) : Int) = (((c % 64).toNat * 64 ^ i : Nat) : Int) by simp, wu64n _ (by omega)]
  rw [e1, e2, e3, u64_or_nat _ _ (by omega) (by omega)]
  have e5 := Nat.two_pow_add_eq_or_of_lt (i := 6 * i) (b := u) (by rw [Nat.pow_mul]; simpa using hu) (c % 64).toNat
  rw [Nat.pow_mul, show (2 ^ 6 : Nat) = 64 from rfl] at e5
  rw [Nat.or_comm, Nat.mul_comm (c % 64).toNat, ← e5]
  congr 1
  omega
theorem ofInt_nat (a : Nat) (h : a < 18446744073709551616) : (BitVec.ofInt 64 (a : Int)).toNat = a := by
  rw [BitVec.ofInt_natCast, BitVec.toNat_ofNat]
  omega
theorem xor_i64 (a : Nat) (h : a < 9223372036854775808) : Go.bits .xor .i64 (a : Int) 0 = (a : Int) ∧ Go.bits .xor .i64 (a : Int) (-1) = -(a : Int) - 1 := by
  constructor
  · show IntKind.i64.wrap ((BitVec.ofInt 64 (a : Int) ^^^ BitVec.ofInt 64 0).toNat : Nat) = _
    rw [BitVec.toNat_xor, ofInt_nat a (by omega), show (BitVec.ofInt 64 0).toNat = 0 from rfl, Nat.xor_zero, IntKind.wrap_i64]
    omega
  · show IntKind.i64.wrap ((BitVec.ofInt 64 (a : Int) ^^^ BitVec.ofInt 64 (-1)).toNat : Nat) = _
    rw [BitVec.toNat_xor, ofInt_nat a (by omega), show (BitVec.ofInt 64 (-1)).toNat = 18446744073709551615 by decide, xor_ones a (by omega), IntKind.wrap_i64]
    omega
theorem unzz_bits (U : Nat) (h : U < 18446744073709551616) : Go.bits .xor .i64 (wrap64 ((U : Int) / 2)) (wrap64 (-(wrap64 (Go.bits .and .u64 (U : Int) 1)))) = unzz U := by
  have e1 : wrap64 ((U : Int) / 2) = ((U / 2 : Nat) : Int) := by unfold wrap64; omega
  have e2 : Go.bits .and .u64 (U : Int) 1 = ((U % 2 : Nat) : Int) := by rw [show (1 : Int) = ((1 : Nat) : Int) from rfl, u64_and_nat U 1 h (by decide), Nat.and_one_is_mod]
  have hx := xor_i64 (U / 2) (by omega)
  rw [e1, e2]
  unfold unzz
  by_cases h0 : U % 2 = 0
  · rw [if_pos h0, h0, show wrap64 (-(wrap64 ((0 : Nat) : Int))) = 0 by unfold wrap64; omega, hx.1]
  · rw [if_neg h0, show U % 2 = 1 by omega, show wrap64 (-(wrap64 ((1 : Nat) : Int))) = -1 by unfold wrap64; omega, hx.2]

theorem fail_f (p : List Int) (e : Int) : pack_Box_fail.f p 0 e = some (p, e) := by unfold pack_Box_fail.f; rw [if_pos rfl]
/-- What is told once a number has been parsed. -/
def told (p : List Int) (least most : Int) : Int × Nat × Nat → Int × List Int × Int
  | (f, u, n) => if f ≠ 0 then (0, p, f) else if unzz u < least ∨ unzz u > most then (0, p, 1) else (unzz u, p.drop n, 0)
theorem get_l0 {p : List Int} (hp : Byt p) (hm : p.length ≤ 9223372036854775807) (least most : Int) : ∀ (d i : Nat), i + d = p.length → ∀ u : Nat, (i ≤ 10 → u < 64 ^ i) → i ≤ 10 →
    Ev (fun k => pack_Box_Get.l0 k least most (u : Int) (p.length : Int) (i : Int) p 0) (told p least most (parse i u (p.drop i))) := by
  intro d
  induction d with
  | zero =>
    intro i hi u hu hi2
    refine Ev.step (f := fun _ => some (told p least most (parse i u (p.drop i)))) (fun k => ?_) (Ev.now _)
    simp only [pack_Box_Get.l0]
    rw [if_neg (by omega), List.drop_eq_nil_of_le (by omega), fail_f]
    simp [parse, told]
  | succ d ih =>
    intro i hi u hu hi2
    have hu := hu hi2
    have hlt : i < p.length := by omega
    have hb := hp _ (List.getElem_mem hlt)
    have hr := rd_nat p i hlt
    have hdr : p.drop i = p[i] :: p.drop (i + 1) := List.drop_eq_getElem_cons hlt
    generalize p[i] = c at *
    have F4 : ∀ g : Nat → Option (Int × List Int × Int), (∀ k, g (k + 1) = some (0, p, 4)) → (c ≥ 128 ∨ (i = 10 ∧ c ≥ 16) ∨ (i > 0 ∧ c = 0)) → Ev g (told p least most (parse i u (p.drop i))) := by
      intro g hg hc
      rw [hdr]
      simp only [parse]
      rw [if_pos hc]
      exact Ev.step hg (by simpa [told] using Ev.now _)
    have J2 : ¬ (c ≥ 128 ∨ (i = 10 ∧ c ≥ 16) ∨ (i > 0 ∧ c = 0)) → Ev (fun k => pack_Box_Get.j2 k least most (u : Int) (i : Int) c (p.length : Int) (i : Int) p 0) (told p least most (parse i u (p.drop i))) := by
      intro hc
      have hc1 : ¬ (i = 10 ∧ c ≥ 16) := fun h => hc (.inr (.inl h))
      have hd := digit i u c hi2 hu hb.1 hc1
      have hU := u64_lt i u c hi2 hu hb.1 hc1
      have hz := unzz_bits _ hU
      have hi6 : wrap64 (6 * (i : Int)) = ((6 * i : Nat) : Int) := by unfold wrap64; omega
      rw [hdr]
      simp only [parse]
      rw [if_neg hc]
      by_cases h64 : c ≥ 64
      · rw [if_pos h64]
        have hi3 : i ≠ 10 := fun h => hc1 ⟨h, by omega⟩
        refine Ev.step (f := fun k => pack_Box_Get.l0 k least most ((u + (c % 64).toNat * 64 ^ i : Nat) : Int) (p.length : Int) ((i + 1 : Nat) : Int) p 0) (fun k => ?_) (ih (i + 1) (by omega) _ (fun _ => next_lt i u c hu) (by omega))
        simp only [pack_Box_Get.j2]
        rw [if_pos (by rw [hi6]; omega), if_pos h64, hd, wrap_one i (by omega)]
      · rw [if_neg h64]
        refine Ev.step (f := fun _ => some (told p least most (0, u + (c % 64).toNat * 64 ^ i, i + 1))) (fun k => ?_) (Ev.now _)
        simp only [pack_Box_Get.j2]
        rw [if_pos (by rw [hi6]; omega), if_neg h64, hd, hz, wrap_one i (by omega)]
        unfold told
        simp only [ne_eq, not_true_eq_false, if_false]
        by_cases h1 : unzz (u + (c % 64).toNat * 64 ^ i) < least
        · rw [if_pos h1, if_pos (.inl h1), fail_f]; rfl
        · rw [if_neg h1]
          by_cases h2 : unzz (u + (c % 64).toNat * 64 ^ i) > most
          · rw [if_pos h2, if_pos (.inr h2), fail_f]; rfl
          · rw [if_neg h2, if_neg (show ¬ (unzz (u + (c % 64).toNat * 64 ^ i) < least ∨ unzz (u + (c % 64).toNat * 64 ^ i) > most) from fun h => h.elim h1 h2), if_pos (by omega), if_pos (by omega), Int.toNat_natCast]
    have J1 : ∀ b : Bool, b = decide (i = 10 ∧ c ≥ 16) → c < 128 → Ev (fun k => pack_Box_Get.j1 k least most (u : Int) (i : Int) c (p.length : Int) (i : Int) b p 0) (told p least most (parse i u (p.drop i))) := by
      intro b hb1 hc
      by_cases h10 : i = 10 ∧ c ≥ 16
      · rw [decide_eq_true h10] at hb1
        subst hb1
        exact F4 _ (fun k => by simp only [pack_Box_Get.j1, fail_f, if_true, Option.bind_some]) (.inr (.inl h10))
      · rw [decide_eq_false h10] at hb1
        subst hb1
        by_cases hz : i > 0 ∧ c = 0
        · exact F4 _ (fun k => by simp only [pack_Box_Get.j1, Bool.false_eq_true, if_false]; rw [if_pos (by omega), if_pos hz.2, fail_f]; rfl) (.inr (.inr hz))
        · refine Ev.step (f := fun k => pack_Box_Get.j2 k least most (u : Int) (i : Int) c (p.length : Int) (i : Int) p 0) (fun k => ?_) (J2 (by omega))
          simp only [pack_Box_Get.j1, Bool.false_eq_true, if_false]
          by_cases h0 : (i : Int) > 0
          · rw [if_pos h0, if_neg (by omega)]
          · rw [if_neg h0]
    by_cases h128 : c ≥ 128
    · refine F4 _ (fun k => ?_) (.inl h128)
      simp only [pack_Box_Get.l0]
      rw [if_pos (by omega), if_pos (by omega), if_pos (by omega), hr, if_pos h128, fail_f]
      rfl
    · by_cases h10 : i = 10
      · refine Ev.step (f := fun k => pack_Box_Get.j1 k least most (u : Int) (i : Int) c (p.length : Int) (i : Int) (decide (c ≥ 16)) p 0) (fun k => ?_) (J1 _ (by simp [h10]) (by omega))
        simp only [pack_Box_Get.l0]
        rw [if_pos (by omega), if_pos (by omega), if_pos (by omega), hr, if_neg h128, if_pos (by omega)]
      · refine Ev.step (f := fun k => pack_Box_Get.j1 k least most (u : Int) (i : Int) c (p.length : Int) (i : Int) false p 0) (fun k => ?_) (J1 _ (by simp [h10]) (by omega))
        simp only [pack_Box_Get.l0]
        rw [if_pos (by omega), if_pos (by omega), if_pos (by omega), hr, if_neg h128, if_neg (by omega)]
theorem get_ev {p : List Int} (hp : Byt p) (hm : p.length ≤ 9223372036854775807) (e least most : Int) : Ev (fun k => pack_Box_Get.f k p e least most) (getI p e least most) := by
  unfold pack_Box_Get.f getI
  by_cases h : e = 0
  · subst h
    have := get_l0 hp hm least most p.length 0 (by omega) 0 (fun _ => by simp) (by omega)
    simp only [if_true, ne_eq, not_true_eq_false, if_false]
    exact this
  · simp only [ne_eq, h, not_false_eq_true, if_true]
    exact Ev.now _
end

section

theorem parse_enc : ∀ (u i a : Nat) (r : List Int), i ≤ 10 → u * 64 ^ i < 18446744073709551616 → (i > 0 → u > 0) → parse i a (enc u ++ r) = (0, a + u * 64 ^ i, i + (enc u).length) := by
  intro u
  induction u using Nat.strongRecOn with
  | _ u ih =>
    intro i a r hi hu h0
    by_cases h1 : u < 64
    · rw [enc_lt h1]
      simp only [List.singleton_append, parse, List.length_singleton]
      have h16 : i = 10 → u < 16 := fun h => by subst h; simp only [Nat.reducePow] at hu; omega
      rw [if_neg (by rintro (h | ⟨h, h'⟩ | ⟨h, h'⟩) <;> omega), if_neg (by omega), show ((u : Int) % 64).toNat = u by omega]
    · rw [enc_ge h1]
      simp only [List.cons_append, parse, List.length_cons]
      have hi9 : i ≠ 10 := fun h => by subst h; simp only [Nat.reducePow] at hu; omega
      have hm : (u / 64) * 64 ^ (i + 1) = (u / 64 * 64) * 64 ^ i := by rw [Nat.pow_succ, Nat.mul_assoc, Nat.mul_comm (64 ^ i) 64]
      have hs : u * 64 ^ i = (u % 64) * 64 ^ i + (u / 64 * 64) * 64 ^ i := by rw [← Nat.add_mul]; congr 1; omega
      rw [if_neg (by rintro (h | ⟨h, h'⟩ | ⟨h, h'⟩) <;> omega), if_pos (by omega), show ((((u % 64 + 64 : Nat) : Int)) % 64).toNat = u % 64 by omega, ih (u / 64) (by omega) (i + 1) _ r (by omega) (by omega) (by omega), hm]
      simp only [Prod.mk.injEq, true_and]
      omega
theorem parse_cut : ∀ (u i a m : Nat), m < (enc u).length → i ≤ 10 → u * 64 ^ i < 18446744073709551616 → (i > 0 → u > 0) → parse i a ((enc u).take m) = (5, 0, 0) := by
  intro u
  induction u using Nat.strongRecOn with
  | _ u ih =>
    intro i a m hm hi hu h0
    cases m with
    | zero => simp [parse]
    | succ m =>
      by_cases h1 : u < 64
      · rw [enc_lt h1] at hm
        simp at hm
      · rw [enc_ge h1] at hm ⊢
        simp only [List.length_cons] at hm
        simp only [List.take_succ_cons, parse]
        have hi9 : i ≠ 10 := fun h => by subst h; simp only [Nat.reducePow] at hu; omega
        have hmm : (u / 64) * 64 ^ (i + 1) = (u / 64 * 64) * 64 ^ i := by rw [Nat.pow_succ, Nat.mul_assoc, Nat.mul_comm (64 ^ i) 64]
        have hs : u * 64 ^ i = (u % 64) * 64 ^ i + (u / 64 * 64) * 64 ^ i := by rw [← Nat.add_mul]; congr 1; omega
        rw [if_neg (by rintro (h | ⟨h, h'⟩ | ⟨h, h'⟩) <;> omega), if_pos (by omega), ih (u / 64) (by omega) (i + 1) _ m (by omega) (by omega) (by omega) (by omega)]
theorem parse_pack {n : Int} (h : I64 n) (r : List Int) : parse 0 0 (packI n ++ r) = (0, zz n, (packI n).length) := by
  have := parse_enc (zz n) 0 0 r (by omega) (by have := zz_lt h; omega) (by omega)
  simpa [packI] using this
theorem getI_pack {n : Int} (h : I64 n) (r : List Int) {least most : Int} (h1 : least ≤ n) (h2 : n ≤ most) : getI (packI n ++ r) 0 least most = (n, r, 0) := by
  unfold getI
  rw [if_neg (by simp), parse_pack h]
  simp only [ne_eq, not_true_eq_false, if_false, unzz_zz]
  rw [if_neg (by omega)]
  simp
theorem getI_cut {n : Int} (h : I64 n) {m : Nat} (hm : m < (packI n).length) (least most : Int) : getI ((packI n).take m) 0 least most = (0, (packI n).take m, 5) := by
  unfold getI
  have := parse_cut (zz n) 0 0 m hm (by omega) (by have := zz_lt h; omega) (by omega)
  rw [if_neg (by simp)]
  unfold packI
  rw [this]
  simp
theorem pack_apart : ∀ (a b : List Int), (∀ x ∈ a, I64 x) → (∀ x ∈ b, I64 x) → ∀ r s : List Int, a.length = b.length → packsI a ++ r = packsI b ++ s → a = b ∧ r = s
  | [], [], _, _, r, s, _, h => ⟨rfl, by simpa [packsI] using h⟩
  | [], _ :: _, _, _, _, _, hl, _ => by simp at hl
  | _ :: _, [], _, _, _, _, hl, _ => by simp at hl
  | x :: a, y :: b, ha, hb, r, s, hl, h => by
    rw [packsI_cons, packsI_cons, List.append_assoc, List.append_assoc] at h
    have hx := ha x (by simp)
    have hy := hb y (by simp)
    have h1 := parse_pack hx (packsI a ++ r)
    rw [h, parse_pack hy] at h1
    simp only [Prod.mk.injEq, true_and] at h1
    obtain rfl := zz_inj h1.1
    have h2 := List.append_cancel_left h
    obtain ⟨h3, h4⟩ := pack_apart a b (fun z hz => ha z (by simp [hz])) (fun z hz => hb z (by simp [hz])) r s (by simpa using hl) h2
    exact ⟨by rw [h3], h4⟩
theorem end_f (p : List Int) (e : Int) : pack_Box_End.f p e = some (if e = 0 then (if (p.length : Int) > 0 then 4 else 0) else e, p, e) := by
  unfold pack_Box_End.f pack_Box_Fault.f
  by_cases h : e = 0
  · rw [if_pos h, if_pos h]
    split <;> simp_all
  · rw [if_neg h, if_neg h]
    rfl
theorem i64s {l : List Int} (h : ∀ x ∈ l, (Lit.int .i64 x).wf = true) : ∀ x ∈ l, I64 x := fun x hx => i64_of (h x hx)

end

section

theorem fault_f (p : List Int) (e : Int) : pack_Box_Fault.f p e = some (e, p, e) := rfl
theorem getI_bad (p : List Int) (e least most : Int) (h : e ≠ 0) : getI p e least most = (0, p, e) := by unfold getI; rw [if_pos h]
theorem flag_ev {p : List Int} (hp : Byt p) (hm : p.length ≤ 9223372036854775807) (e : Int) : Ev (fun k => pack_Box_GetFlag.f k p e) ((getI p e 0 1).1 == 1, (getI p e 0 1).2.1, (getI p e 0 1).2.2) := by
  unfold pack_Box_GetFlag.f
  exact Ev.bind (get_ev hp hm e 0 1) (Ev.now _)

end
end Go.Proofs.Ytlihgjonmliodaa.Pure
