/- What taking a number from some bytes comes to, as a plain function, and that it is the number that was put. Each byte lies from 0 to 255. -/
import Derived.Test.YtinmndkhipfccaaPurePack
import Derived.Test.YtinmndkhipfccaaPAx10
import Derived.Test.YtinmndkhipfccaaPAx11
namespace Go.Proofs.Ytinmndkhipfccaa.Pure
open Go.RowKit Go.Proofs.Ytinmndkhipfccaa.PA Go.Proofs.YtinmndkhipfccaaW.PrintWords Go.Proofs.YtinmndkhipfccaaW.PrintLast Go.Proofs.YtinmndkhipfccaaW.PrintMore

def Byt (l : List Int) : Prop := ∀ x ∈ l, 0 ≤ x ∧ x < 256
theorem byt_of {l : List Int} (h : ∀ x ∈ l, (Lit.int .u8 x).wf = true) : Byt l := fun x hx => by have := bounds_u8 (h x hx); omega
theorem Byt.append {a b : List Int} (ha : Byt a) (hb : Byt b) : Byt (a ++ b) := fun x hx => by
  rcases List.mem_append.1 hx with h | h
  · exact ha x h
  · exact hb x h
theorem Byt.take {a : List Int} (ha : Byt a) (n : Nat) : Byt (a.take n) := fun x hx => ha x (List.mem_of_mem_take hx)
theorem Byt.drop {a : List Int} (ha : Byt a) (n : Nat) : Byt (a.drop n) := fun x hx => ha x (List.mem_of_mem_drop hx)
theorem packI_byt (n : Int) : Byt (packI n) := fun x hx => by have := packI_bytes n x hx; omega
theorem packsI_byt (l : List Int) : Byt (packsI l) := fun x hx => by have := packsI_bytes l x hx; omega
theorem str_inj {a b : List Int} (ha : Byt a) (hb : Byt b) : (strOfNums a).toList = (strOfNums b).toList ↔ a = b := by
  refine ⟨fun h => ?_, fun h => by rw [h]⟩
  rw [Lib.strOfNums_toList, Lib.strOfNums_toList] at h
  unfold Lib.bytesOf at h
  have hl : a.length = b.length := by simpa using congrArg List.length h
  apply List.ext_getElem hl
  intro i h1 h2
  have := congrArg (fun l => l[i]?) h
  simp only [List.getElem?_map, List.getElem?_eq_getElem h1, List.getElem?_eq_getElem h2, Option.map_some, Option.some.injEq] at this
  have h3 := ha _ (List.getElem_mem h1)
  have h4 := hb _ (List.getElem_mem h2)
  have h5 := congrArg UInt8.toNat this
  simp only [UInt8.toNat_ofNat'] at h5
  omega
theorem str_beq {a b : List Int} (ha : Byt a) (hb : Byt b) : ((strOfNums a).toList == (strOfNums b).toList) = decide (a = b) := by
  rw [Bool.eq_iff_iff, beq_iff_eq, decide_eq_true_iff, str_inj ha hb]

/-! ### one number -/
def unzz (u : Nat) : Int := if u % 2 = 0 then ((u / 2 : Nat) : Int) else -((u / 2 : Nat) : Int) - 1
theorem unzz_zz (n : Int) : unzz (zz n) = n := by
  unfold unzz zz
  by_cases h : n < 0
  · rw [if_pos h, if_neg (by omega)]; omega
  · rw [if_neg h, if_pos (by omega)]; omega
theorem zz_inj {a b : Int} (h : zz a = zz b) : a = b := by rw [← unzz_zz a, h, unzz_zz]
/-- The error's number, the digits' number, how many they are. -/
def parse : Nat → Nat → List Int → Int × Nat × Nat
  | _, _, [] => (5, 0, 0)
  | i, u, c :: cs =>
    if c ≥ 128 ∨ (i = 10 ∧ c ≥ 16) ∨ (i > 0 ∧ c = 0) then (4, 0, 0)
    else if c ≥ 64 then parse (i + 1) (u + (c % 64).toNat * 64 ^ i) cs
    else (0, u + (c % 64).toNat * 64 ^ i, i + 1)
def getI (p : List Int) (e least most : Int) : Int × List Int × Int :=
  if e ≠ 0 then (0, p, e) else
  match parse 0 0 p with
  | (f, u, n) => if f ≠ 0 then (0, p, f) else if unzz u < least ∨ unzz u > most then (0, p, 1) else (unzz u, p.drop n, 0)

theorem pow_lt (i : Nat) (h : i ≤ 10) : 64 ^ i ≤ 1152921504606846976 := by
  have := Nat.pow_le_pow_right (n := 64) (by decide) h
  simpa using this
theorem u64_lt (i u : Nat) (c : Int) (hi : i ≤ 10) (hu : u < 64 ^ i) (h0 : 0 ≤ c) (h1 : ¬ (i = 10 ∧ c ≥ 16)) : u + (c % 64).toNat * 64 ^ i < 18446744073709551616 := by
  by_cases h : i = 10
  · subst h
    have h2 : (c % 64).toNat ≤ 15 := by omega
    have := Nat.mul_le_mul_right (64 ^ 10) h2
    simp only [Nat.reducePow] at *
    omega
  · have h2 : (c % 64).toNat ≤ 63 := by omega
    have h3 := Nat.mul_le_mul_right (64 ^ i) h2
    have h4 : 64 ^ i ≤ 64 ^ 9 := Nat.pow_le_pow_right (by decide) (by omega)
    simp only [Nat.reducePow] at *
    omega
theorem next_lt (i u : Nat) (c : Int) (hu : u < 64 ^ i) : u + (c % 64).toNat * 64 ^ i < 64 ^ (i + 1) := by
  have h2 : (c % 64).toNat ≤ 63 := by omega
  have h3 := Nat.mul_le_mul_right (64 ^ i) h2
  rw [Nat.pow_succ]
  omega
theorem digit (i u : Nat) (c : Int) (hi : i ≤ 10) (hu : u < 64 ^ i) (h0 : 0 ≤ c) (h1 : ¬ (i = 10 ∧ c ≥ 16)) :
    Go.bits .or .u64 (u : Int) (shl .u64 (IntKind.u64.wrap (Int.tmod c 64)) (wrap64 (6 * (i : Int)))) = ((u + (c % 64).toNat * 64 ^ i : Nat) : Int) := by
  have hb := u64_lt i u c hi hu h0 h1
  have hp := pow_lt i hi
  have e1 : IntKind.u64.wrap (Int.tmod c 64) = (((c % 64).toNat : Nat) : Int) := by rw [Int.tmod_eq_emod_of_nonneg h0, u64w]; omega
  have e2 : wrap64 (6 * (i : Int)) = ((6 * i : Nat) : Int) := by unfold wrap64; omega
  have e3 : shl .u64 (((c % 64).toNat : Nat) : Int) ((6 * i : Nat) : Int) = (((c % 64).toNat * 64 ^ i : Nat) : Int) := by
    unfold shl
    rw [Int.toNat_natCast, show min (6 * i) IntKind.u64.bits = 6 * i from Nat.min_eq_left (by show 6 * i ≤ 64; omega)]
    have e4 : (2 : Int) ^ (6 * i) = ((64 ^ i : Nat) : Int) := by rw [Int.pow_mul]; simp
    rw [e4, show (((c % 64).toNat : Nat) : Int) * ((64 ^ i : Nat) : Int) = (((c % 64).toNat * 64 ^ i : Nat) : Int) by simp, u64n _ (by omega)]
  rw [e1, e2, e3, u64_or_nat _ _ (by omega) (by omega)]
  have e5 := Nat.two_pow_add_eq_or_of_lt (i := 6 * i) (b := u) (by rw [Nat.pow_mul]; simpa using hu) (c % 64).toNat
  rw [Nat.pow_mul, show (2 ^ 6 : Nat) = 64 from rfl] at e5
  rw [Nat.or_comm, Nat.mul_comm (c % 64).toNat, ← e5]
  congr 1
  omega
theorem ofInt_nat (a : Nat) (h : a < 18446744073709551616) : (BitVec.ofInt 64 (a : Int)).toNat = a := by
  rw [BitVec.ofInt_natCast, BitVec.toNat_ofNat]
  omega
theorem xor_i64 (a : Nat) (h : a < 9223372036854775808) : Go.bits .xor .i64 (a : Int) 0 = (a : Int) ∧ Go.bits .xor .i64 (a : Int) (-1) = -(a : Int) - 1 := by
  constructor
  · show IntKind.i64.wrap ((BitVec.ofInt 64 (a : Int) ^^^ BitVec.ofInt 64 0).toNat : Nat) = _
    rw [BitVec.toNat_xor, ofInt_nat a (by omega), show (BitVec.ofInt 64 0).toNat = 0 from rfl, Nat.xor_zero, IntKind.wrap_i64]
    omega
  · show IntKind.i64.wrap ((BitVec.ofInt 64 (a : Int) ^^^ BitVec.ofInt 64 (-1)).toNat : Nat) = _
    rw [BitVec.toNat_xor, ofInt_nat a (by omega), show (BitVec.ofInt 64 (-1)).toNat = 18446744073709551615 by decide, xor_ones a (by omega), IntKind.wrap_i64]
    omega
theorem unzz_bits (U : Nat) (h : U < 18446744073709551616) : Go.bits .xor .i64 (wrap64 ((U : Int) / 2)) (wrap64 (-(wrap64 (Go.bits .and .u64 (U : Int) 1)))) = unzz U := by
  have e1 : wrap64 ((U : Int) / 2) = ((U / 2 : Nat) : Int) := by unfold wrap64; omega
  have e2 : Go.bits .and .u64 (U : Int) 1 = ((U % 2 : Nat) : Int) := by rw [show (1 : Int) = ((1 : Nat) : Int) from rfl, u64_and_nat U 1 h (by decide), Nat.and_one_is_mod]
  have hx := xor_i64 (U / 2) (by omega)
  rw [e1, e2]
  unfold unzz
  by_cases h0 : U % 2 = 0
  · rw [if_pos h0, h0, show wrap64 (-(wrap64 ((0 : Nat) : Int))) = 0 by unfold wrap64; omega, hx.1]
  · rw [if_neg h0, show U % 2 = 1 by omega, show wrap64 (-(wrap64 ((1 : Nat) : Int))) = -1 by unfold wrap64; omega, hx.2]

theorem fail_f (p : List Int) (e : Int) : pack_Box_fail.f p 0 e = some (p, e) := by unfold pack_Box_fail.f; rw [if_pos rfl]
/-- What is told once a number has been parsed. -/
def told (p : List Int) (least most : Int) : Int × Nat × Nat → Int × List Int × Int
  | (f, u, n) => if f ≠ 0 then (0, p, f) else if unzz u < least ∨ unzz u > most then (0, p, 1) else (unzz u, p.drop n, 0)
theorem get_l0 {p : List Int} (hp : Byt p) (hm : p.length ≤ 9223372036854775807) (least most : Int) : ∀ (d i : Nat), i + d = p.length → ∀ u : Nat, (i ≤ 10 → u < 64 ^ i) → i ≤ 10 →
    Ev (fun k => pack_Box_Get.l0 k least most (u : Int) (p.length : Int) (i : Int) p 0) (told p least most (parse i u (p.drop i))) := by
  intro d
  induction d with
  | zero =>
    intro i hi u hu hi2
    refine Ev.step (f := fun _ => some (told p least most (parse i u (p.drop i)))) (fun k => ?_) (Ev.now _)
    simp only [pack_Box_Get.l0]
    rw [if_neg (by omega), List.drop_eq_nil_of_le (by omega), fail_f]
    simp [parse, told]
  | succ d ih =>
    intro i hi u hu hi2
    have hu := hu hi2
    have hlt : i < p.length := by omega
    have hb := hp _ (List.getElem_mem hlt)
    have hr := rd_nat p i hlt
    have hdr : p.drop i = p[i] :: p.drop (i + 1) := List.drop_eq_getElem_cons hlt
    generalize p[i] = c at *
    have F4 : ∀ g : Nat → Option (Int × List Int × Int), (∀ k, g (k + 1) = some (0, p, 4)) → (c ≥ 128 ∨ (i = 10 ∧ c ≥ 16) ∨ (i > 0 ∧ c = 0)) → Ev g (told p least most (parse i u (p.drop i))) := by
      intro g hg hc
      rw [hdr]
      simp only [parse]
      rw [if_pos hc]
      exact Ev.step hg (by simpa [told] using Ev.now _)
    have J2 : ¬ (c ≥ 128 ∨ (i = 10 ∧ c ≥ 16) ∨ (i > 0 ∧ c = 0)) → Ev (fun k => pack_Box_Get.j2 k least most (u : Int) (i : Int) c (p.length : Int) (i : Int) p 0) (told p least most (parse i u (p.drop i))) := by
      intro hc
      have hc1 : ¬ (i = 10 ∧ c ≥ 16) := fun h => hc (.inr (.inl h))
      have hd := digit i u c hi2 hu hb.1 hc1
      have hU := u64_lt i u c hi2 hu hb.1 hc1
      have hz := unzz_bits _ hU
      have hi6 : wrap64 (6 * (i : Int)) = ((6 * i : Nat) : Int) := by unfold wrap64; omega
      rw [hdr]
      simp only [parse]
      rw [if_neg hc]
      by_cases h64 : c ≥ 64
      · rw [if_pos h64]
        have hi3 : i ≠ 10 := fun h => hc1 ⟨h, by omega⟩
        refine Ev.step (f := fun k => pack_Box_Get.l0 k least most ((u + (c % 64).toNat * 64 ^ i : Nat) : Int) (p.length : Int) ((i + 1 : Nat) : Int) p 0) (fun k => ?_) (ih (i + 1) (by omega) _ (fun _ => next_lt i u c hu) (by omega))
        simp only [pack_Box_Get.j2]
        rw [if_pos (by rw [hi6]; omega), if_pos h64, hd, wrap_one i (by omega)]
      · rw [if_neg h64]
        refine Ev.step (f := fun _ => some (told p least most (0, u + (c % 64).toNat * 64 ^ i, i + 1))) (fun k => ?_) (Ev.now _)
        simp only [pack_Box_Get.j2]
        rw [if_pos (by rw [hi6]; omega), if_neg h64, hd, hz, wrap_one i (by omega)]
        unfold told
        simp only [ne_eq, not_true_eq_false, if_false]
        by_cases h1 : unzz (u + (c % 64).toNat * 64 ^ i) < least
        · rw [if_pos h1, if_pos (.inl h1), fail_f]; rfl
        · rw [if_neg h1]
          by_cases h2 : unzz (u + (c % 64).toNat * 64 ^ i) > most
          · rw [if_pos h2, if_pos (.inr h2), fail_f]; rfl
          · rw [if_neg h2, if_neg (show ¬ (unzz (u + (c % 64).toNat * 64 ^ i) < least ∨ unzz (u + (c % 64).toNat * 64 ^ i) > most) from fun h => h.elim h1 h2), if_pos (by omega), if_pos (by omega), Int.toNat_natCast]
    have J1 : ∀ b : Bool, b = decide (i = 10 ∧ c ≥ 16) → c < 128 → Ev (fun k => pack_Box_Get.j1 k least most (u : Int) (i : Int) c (p.length : Int) (i : Int) b p 0) (told p least most (parse i u (p.drop i))) := by
      intro b hb1 hc
      by_cases h10 : i = 10 ∧ c ≥ 16
      · rw [decide_eq_true h10] at hb1
        subst hb1
        exact F4 _ (fun k => by simp only [pack_Box_Get.j1, fail_f, if_true, Option.bind_some]) (.inr (.inl h10))
      · rw [decide_eq_false h10] at hb1
        subst hb1
        by_cases hz : i > 0 ∧ c = 0
        · exact F4 _ (fun k => by simp only [pack_Box_Get.j1, Bool.false_eq_true, if_false]; rw [if_pos (by omega), if_pos hz.2, fail_f]; rfl) (.inr (.inr hz))
        · refine Ev.step (f := fun k => pack_Box_Get.j2 k least most (u : Int) (i : Int) c (p.length : Int) (i : Int) p 0) (fun k => ?_) (J2 (by omega))
          simp only [pack_Box_Get.j1, Bool.false_eq_true, if_false]
          by_cases h0 : (i : Int) > 0
          · rw [if_pos h0, if_neg (by omega)]
          · rw [if_neg h0]
    by_cases h128 : c ≥ 128
    · refine F4 _ (fun k => ?_) (.inl h128)
      simp only [pack_Box_Get.l0]
      rw [if_pos (by omega), if_pos (by omega), if_pos (by omega), hr, if_pos h128, fail_f]
      rfl
    · by_cases h10 : i = 10
      · refine Ev.step (f := fun k => pack_Box_Get.j1 k least most (u : Int) (i : Int) c (p.length : Int) (i : Int) (decide (c ≥ 16)) p 0) (fun k => ?_) (J1 _ (by simp [h10]) (by omega))
        simp only [pack_Box_Get.l0]
        rw [if_pos (by omega), if_pos (by omega), if_pos (by omega), hr, if_neg h128, if_pos (by omega)]
      · refine Ev.step (f := fun k => pack_Box_Get.j1 k least most (u : Int) (i : Int) c (p.length : Int) (i : Int) false p 0) (fun k => ?_) (J1 _ (by simp [h10]) (by omega))
        simp only [pack_Box_Get.l0]
        rw [if_pos (by omega), if_pos (by omega), if_pos (by omega), hr, if_neg h128, if_neg (by omega)]
theorem get_ev {p : List Int} (hp : Byt p) (hm : p.length ≤ 9223372036854775807) (e least most : Int) : Ev (fun k => pack_Box_Get.f k p e least most) (getI p e least most) := by
  unfold pack_Box_Get.f getI
  by_cases h : e = 0
  · subst h
    have := get_l0 hp hm least most p.length 0 (by omega) 0 (fun _ => by simp) (by omega)
    simp only [if_true, ne_eq, not_true_eq_false, if_false]
    exact this
  · simp only [ne_eq, h, not_false_eq_true, if_true]
    exact Ev.now _
end Go.Proofs.Ytinmndkhipfccaa.Pure
