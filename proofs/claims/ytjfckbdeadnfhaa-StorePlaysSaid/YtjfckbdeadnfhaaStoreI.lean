/- What a store should say, told by two arrays. -/
import Derived.Test.YtjfckbdeadnfhaaStoreH
namespace Go.Proofs.Ytjfckbdeadnfhaa
open Go.RowKit Go.Maps Go.Proofs.YtjfckbdeadnfhaaW.PrintWords
set_option linter.unusedVariables false
abbrev Said := Int → Int → Option Int
abbrev Aside := Int → Int → Bool
/-- An array of three by three: what was said, 0 for nothing. -/
structure ArrS (A : Array Value) (f : Said) : Prop where
  size : A.size = 9
  at_ : ∀ s y : Nat, s < 3 → y < 3 → A[s * 3 + y]? = some (.int .u8 ((f s y).getD 0))
structure ArrB (A : Array Value) (g : Aside) : Prop where
  size : A.size = 9
  at_ : ∀ s y : Nat, s < 3 → y < 3 → A[s * 3 + y]? = some (.bool (g s y))
theorem ArrS.put {A : Array Value} {f : Said} (h : ArrS A f) {s y : Nat} (hs : s < 3) (hy : y < 3) (u : Int) : ArrS (A.setIfInBounds (s * 3 + y) (.int .u8 u)) (upd f s y u) := by
  refine ⟨by simp [h.size], fun a b ha hb => ?_⟩
  by_cases e : a * 3 + b = s * 3 + y
  · have h1 : a = s := by omega
    have h2 : b = y := by omega
    subst h1 h2
    rw [Array.getElem?_setIfInBounds_self_of_lt (by rw [h.size]; omega)]
    simp [upd]
  · rw [Array.getElem?_setIfInBounds_ne (by omega), h.at_ a b ha hb]
    have : ¬ ((a : Int) = s ∧ (b : Int) = y) := fun h => e (by omega)
    simp [upd, this]
theorem ArrB.put {A : Array Value} {g : Aside} (h : ArrB A g) {s y : Nat} (hs : s < 3) (hy : y < 3) (x : Bool) : ArrB (A.setIfInBounds (s * 3 + y) (.bool x)) (updA g s y x) := by
  refine ⟨by simp [h.size], fun a b ha hb => ?_⟩
  by_cases e : a * 3 + b = s * 3 + y
  · have h1 : a = s := by omega
    have h2 : b = y := by omega
    subst h1 h2
    rw [Array.getElem?_setIfInBounds_self_of_lt (by rw [h.size]; omega)]
    simp [updA]
  · rw [Array.getElem?_setIfInBounds_ne (by omega), h.at_ a b ha hb]
    have : ¬ ((a : Int) = s ∧ (b : Int) = y) := fun h => e (by omega)
    simp [updA, this]
abbrev zA : Array Value := #[.int .u8 0, .int .u8 0, .int .u8 0, .int .u8 0, .int .u8 0, .int .u8 0, .int .u8 0, .int .u8 0, .int .u8 0]
abbrev zB : Array Value := #[.bool false, .bool false, .bool false, .bool false, .bool false, .bool false, .bool false, .bool false, .bool false]
theorem ArrS.nil : ArrS zA (fun _ _ => none) := by
  refine ⟨rfl, fun s y hs hy => ?_⟩
  obtain rfl | rfl | rfl : s = 0 ∨ s = 1 ∨ s = 2 := by omega
  all_goals
    obtain rfl | rfl | rfl : y = 0 ∨ y = 1 ∨ y = 2 := by omega
    all_goals rfl
theorem ArrB.nil : ArrB zB (fun _ _ => false) := by
  refine ⟨rfl, fun s y hs hy => ?_⟩
  obtain rfl | rfl | rfl : s = 0 ∨ s = 1 ∨ s = 2 := by omega
  all_goals
    obtain rfl | rfl | rfl : y = 0 ∨ y = 1 ∨ y = 2 := by omega
    all_goals rfl
def one (b : Bool) : Nat := if b then 1 else 0
/-- How many of the nine are aside. -/
def cnt9 (g : Aside) : Nat := one (g 0 0) + one (g 0 1) + one (g 0 2) + (one (g 1 0) + one (g 1 1) + one (g 1 2)) + (one (g 2 0) + one (g 2 1) + one (g 2 2))
theorem cnt9_upd (g : Aside) {s y : Int} (hs : s = 0 ∨ s = 1 ∨ s = 2) (hy : y = 0 ∨ y = 1 ∨ y = 2) (x : Bool) : cnt9 (updA g s y x) + one (g s y) = cnt9 g + one x := by
  rcases hs with rfl | rfl | rfl <;> rcases hy with rfl | rfl | rfl <;> simp [cnt9, updA] <;> omega
structure Inv (f : Said) (g : Aside) (m : Nat) : Prop where
  vals : ∀ s y u, f s y = some u → u = 1 ∨ u = 3
  cnt : m = cnt9 g
theorem Inv.nil : Inv (fun _ _ => none) (fun _ _ => false) 0 := ⟨(fun _ _ _ h => by cases h), rfl⟩
theorem Inv.hear {f : Said} {g : Aside} {m : Nat} (h : Inv f g m) {s y : Int} (hs : s = 0 ∨ s = 1 ∨ s = 2) (hy : y = 0 ∨ y = 1 ∨ y = 2) (k v : Int) : Inv (hF f k s y v) (hA f g k s y v) (hM f g m k s y v) := by
  have hc := cnt9_upd g hs hy
  have hm := h.cnt
  refine ⟨fun a b u hu => ?_, ?_⟩
  · unfold hF at hu
    cases hf : f s y with
    | some u' => rw [hf] at hu; exact h.vals a b u hu
    | none =>
      rw [hf] at hu
      dsimp only at hu
      unfold upd at hu
      split at hu
      · injection hu with hu; subst hu
        split
        · exact .inr rfl
        · split
          · exact .inl rfl
          · exact .inr rfl
      · exact h.vals a b u hu
  · unfold hM hA
    split
    · have := hc false
      cases hg : g s y with
      | true => rw [hg] at this; simp [one] at this ⊢; omega
      | false => rw [hg] at this; simp [one] at this ⊢; omega
    · cases hf : f s y with
      | some u' => exact hm
      | none =>
        dsimp only
        split
        · have := hc true
          cases hg : g s y with
          | true => rw [hg] at this; simp [one] at this ⊢; omega
          | false => rw [hg] at this; simp [one] at this ⊢; omega
        · exact hm
/-- How many of the first k are aside. -/
def psum (g : Aside) : Nat → Nat
  | 0 => 0
  | k + 1 => psum g k + one (g ((k / 3 : Nat) : Int) ((k % 3 : Nat) : Int))
theorem psum_nine (g : Aside) : psum g 9 = cnt9 g := by
  simp [psum, cnt9]
  omega
theorem psum_le (g : Aside) : ∀ k, psum g k ≤ k
  | 0 => Nat.le_refl _
  | k + 1 => by
    have := psum_le g k
    unfold psum one
    split <;> omega
theorem psum_at (g : Aside) (a b : Nat) (hb : b < 3) : psum g (a * 3 + b + 1) = psum g (a * 3 + b) + one (g a b) := by
  show psum g (a * 3 + b) + one (g ((a * 3 + b) / 3 : Nat) ((a * 3 + b) % 3 : Nat)) = _
  rw [show (a * 3 + b) / 3 = a by omega, show (a * 3 + b) % 3 = b by omega]
end Go.Proofs.Ytjfckbdeadnfhaa
