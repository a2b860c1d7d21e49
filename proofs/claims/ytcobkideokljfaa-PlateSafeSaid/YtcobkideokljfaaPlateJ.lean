/- A plate: Same. -/
import Derived.Test.YtcobkideokljfaaPlateI
namespace Go.Proofs.Ytcobkideokljfaa
open Go.RowKit Go.Proofs.YtcobkideokljfaaW.PrintWords
set_option linter.unusedVariables false
set_option linter.unusedSimpArgs false

def eqS (p q : St) (j : Nat) : Bool := (strOfNums (p.safe.getD j [])).toList == (strOfNums (q.safe.getD j [])).toList
theorem sameB_eq (p q : St) : sameB p q = (p.safe.length == q.safe.length && (List.range p.safe.length).all (eqS p q)) := rfl
theorem sameB_ne {p q : St} (h : p.safe.length ≠ q.safe.length) : sameB p q = false := by
  rw [sameB_eq, beq_eq_false_iff_ne.mpr h, Bool.false_and]
theorem sameB_not {p q : St} {k : Nat} (hk : k < p.safe.length) (h : eqS p q k = false) : sameB p q = false := by
  rw [sameB_eq, show (List.range p.safe.length).all (eqS p q) = false from by
    rw [List.all_eq_false]
    exact ⟨k, List.mem_range.2 hk, by rw [h]; decide⟩, Bool.and_false]
theorem sameB_all {p q : St} (hl : p.safe.length = q.safe.length) (h : ∀ k, k < p.safe.length → eqS p q k = true) : sameB p q = true := by
  rw [sameB_eq, show (List.range p.safe.length).all (eqS p q) = true from List.all_eq_true.2 (fun k hk => h k (List.mem_range.1 hk)), hl]
  simp
theorem same_nil {w : World} {c : Nat} {sv wv : Value} {p : St} (H : IsPlate w c sv wv p) (h0 : p.safe = []) : Calls Try.prog 18 #[.pointer none, .pointer (some ⟨c, 0, none⟩)] w fun e w' => e = .returned (.bool true) ∧ w' = w := by
  have hl : (p.safe.length : Int) = 0 := by rw [h0]; rfl
  go_enter Try.func18, Try.ntmps18
  go_wp2_with fail
  go_at_call 20
  refine (size_nil _).mono ?_
  rintro e w1 ⟨rfl, rfl⟩
  go_wp2_with fail
  go_at_call 20
  refine (size_c H).mono ?_
  rintro e w1 ⟨rfl, hw⟩
  rw [hl]
  subst hw
  go_wp2_with fail
  go_at_call 20
  refine (size_nil _).mono ?_
  rintro e w1 ⟨rfl, hw⟩
  subst hw
  go_wp2_with fail
  obtain ⟨W0, hW0⟩ : ∃ W0 : World, W0 = _ := ⟨_, rfl⟩
  go_loopg [13] 1 (fun kq v13 wr => v13 = .int .i64 0 ∧ wr = W0)
  case atStart => exact ⟨rfl, hW0.symm⟩
  case round =>
    obtain ⟨rfl, rfl⟩ := hrel
    go_wp2_with fail
    go_ret
    first | exact ⟨rfl, hW0⟩ | exact ⟨rfl, rfl⟩
set_option maxHeartbeats 4000000 in
theorem same_c {w : World} {c1 c2 : Nat} {s1 v1 s2 v2 : Value} {p q : St} (H1 : IsPlate w c1 s1 v1 p) (H2 : IsPlate w c2 s2 v2 q) : Calls Try.prog 18 #[.pointer (some ⟨c1, 0, none⟩), .pointer (some ⟨c2, 0, none⟩)] w fun e w' => e = .returned (.bool (sameB p q)) ∧ Below w.heap.size w w' := by
  have h1000 := H1.fit.sn
  by_cases hl : p.safe.length = q.safe.length
  · have hl2 : ((p.safe.length : Int) != (q.safe.length : Int)) = false := by simp [hl]
    go_enter Try.func18, Try.ntmps18
    go_wp2_with fail
    go_at_call 20
    refine (size_c H1).mono ?_
    rintro e w1 ⟨rfl, hw⟩
    subst hw
    go_wp2_with fail
    go_at_call 20
    refine (size_c H2).mono ?_
    rintro e w1 ⟨rfl, hw⟩
    subst hw
    go_wp2_with fail
    go_at_call 20
    refine (size_c H1).mono ?_
    rintro e w1 ⟨rfl, hw⟩
    subst hw
    have HI1 := Aside0.mk H1
    have HI2 := Aside0.mk H2
    have HLE := Aside0.mk hl
    clear H1 H2 hl hl2
    go_wp2_with fail
    go_loopg [13] p.safe.length (fun kq v13 wr => ∃ k : Nat, v13 = .int .i64 k ∧ k ≤ p.safe.length ∧ Aside0 (kq = p.safe.length - k) ∧ Aside0 (∀ j, j < k → eqS p q j = true) ∧ Aside0 (Below w1.heap.size w1 wr))
    case atStart => exact ⟨0, rfl, by omega, ⟨rfl⟩, ⟨fun j hj => by omega⟩, ⟨Below.refl _ _⟩⟩
    case round =>
      obtain ⟨k, rfl, hk, hkq, HE, HB⟩ := hrel
      by_cases hlt : k < p.safe.length
      · obtain ⟨x, hx⟩ : ∃ x, p.safe[k]? = some x := ⟨_, List.getElem?_eq_getElem hlt⟩
        obtain ⟨y, hy⟩ : ∃ y, q.safe[k]? = some y := ⟨_, List.getElem?_eq_getElem (by rw [← HLE.out]; exact hlt)⟩
        have hx64 : x.length = 64 := HI1.out.fit.sl x (List.mem_of_getElem? hx)
        have hy64 : y.length = 64 := HI2.out.fit.sl y (List.mem_of_getElem? hy)
        have heq : eqS p q k = ((strOfNums x).toList == (strOfNums y).toList) := by unfold eqS; simp [List.getD_eq_getElem?_getD, hx, hy]
        have J1 := HI1.out.below HB.out
        have J2 := HI2.out.below HB.out
        obtain ⟨g1, d1, rfl, hg1, hr1⟩ := safe_form J1 hx
        obtain ⟨g2, d2, rfl, hg2, hr2⟩ := safe_form J2 hy
        have HC1 := Aside0.mk (range_C hr1 hx64)
        have HC2 := Aside0.mk (range_C hr2 hy64)
        have HJ1 := Aside0.mk J1
        have HJ2 := Aside0.mk J2
        have HLT := Aside0.mk hlt
        have HQ := Aside0.mk heq
        have k1 : (k : Int) < p.safe.length := by omega
        have k2 : ¬ (k : Int) < 0 := by omega
        have k3 : (k : Int) < q.safe.length := by rw [← HLE.out]; exact k1
        clear J1 J2 hr1 hr2 heq hlt hx hy
        go_wp2_with fail
        refine still_tail_at 14 (by kernel_rfl) (by kernel_rfl) ?_
        intro V eV bV
        have FV : Aside0 (Below w1.heap.size w1 V) := ⟨HB.out.trans ⟨bV.os, bV.tape, bV.output, by rw [eV]; exact Nat.le_refl _, fun i hi => by rw [eV]⟩⟩
        have hbV : Below wr.heap.size wr V := ⟨bV.os, bV.tape, bV.output, by rw [eV]; exact Nat.le_refl _, fun i hi => by rw [eV]⟩
        obtain ⟨a0, a1, a2, a3, a4, a5, af⟩ := cells6 (HJ1.out.same eV).blk
        obtain ⟨b0, b1, b2, b3, b4, b5, bf⟩ := cells6 (HJ2.out.same eV).blk
        have HV1 : Aside0 (Kd.C (Kd.int .u8) V (some ⟨g1, k * 64, none⟩) x.length x) := ⟨Kd.C_below HC1.out hbV⟩
        have HV2 : Aside0 (Kd.C (Kd.int .u8) V (some ⟨g2, k * 64, none⟩) y.length y) := ⟨Kd.C_below HC2.out hbV⟩
        clear eV bV hbV
        simp only [List.take_succ_cons, List.take_zero, List.drop_succ_cons, List.drop_zero]
        iterate 14 still_step
        refine wpStill_nil ?_
        go_wp2_with fail
        go_at_call 29
        have hq := equal_c 64 64 V HV1.out HV2.out
        rw [hx64, hy64, ← HQ.out] at hq
        refine hq.mono ?_
        rintro e w5 ⟨rfl, hw⟩
        subst hw
        cases he : eqS p q k
        · go_wp2_with fail
          go_ret
          exact ⟨by rw [sameB_not HLT.out he]; rfl, FV.out⟩
        · go_wp2_with fail
          go_roundg (p.safe.length - (k + 1))
          case measure => have := hkq.out; have := HLT.out; omega
          case rel => exact ⟨k + 1, by go_num, by have := HLT.out; omega, ⟨rfl⟩, ⟨fun j hj => by
            by_cases e : j = k
            · rw [e]; exact he
            · exact HE.out j (by omega)⟩, FV⟩
      · obtain rfl : k = p.safe.length := by omega
        go_wp2_with fail
        go_ret
        exact ⟨by rw [sameB_all HLE.out HE.out]; rfl, HB.out⟩
  · have hl2 : ((p.safe.length : Int) != (q.safe.length : Int)) = true := by simp; omega
    go_enter Try.func18, Try.ntmps18
    go_wp2_with fail
    go_at_call 20
    refine (size_c H1).mono ?_
    rintro e w1 ⟨rfl, hw⟩
    subst hw
    go_wp2_with fail
    go_at_call 20
    refine (size_c H2).mono ?_
    rintro e w1 ⟨rfl, hw⟩
    subst hw
    go_wp2_with fail
    go_ret
    exact ⟨by rw [sameB_ne hl]; rfl, Below.refl _ _⟩
end Go.Proofs.Ytcobkideokljfaa
