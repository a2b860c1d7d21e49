/- What a cart should say, and have sent, told by an array and a list beside it. -/
import Derived.Test.YtmenfodphooacaaCartF
namespace Go.Proofs.Ytmenfodphooacaa
open Go.RowKit Go.Maps Go.Proofs.YtmenfodphooacaaW.PrintWords
set_option linter.unusedVariables false

abbrev Said := Int → Int → Option Int
/-- An array of three by three: what was said, 0 for nothing. -/
structure SaidArr (A : Array Value) (f : Said) : Prop where
  size : A.size = 9
  at_ : ∀ s y : Nat, s < 3 → y < 3 → A[s * 3 + y]? = some (.int .u8 ((f s y).getD 0))
theorem SaidArr.put {A : Array Value} {f : Said} (h : SaidArr A f) {s y : Nat} (hs : s < 3) (hy : y < 3) (u : Int) : SaidArr (A.setIfInBounds (s * 3 + y) (.int .u8 u)) (upd f s y u) := by
  refine ⟨by simp [h.size], fun a b ha hb => ?_⟩
  by_cases e : a * 3 + b = s * 3 + y
  · have h1 : a = s := by omega
    have h2 : b = y := by omega
    subst h1 h2
    rw [Array.getElem?_setIfInBounds_self_of_lt (by rw [h.size]; omega)]
    simp [upd]
  · rw [Array.getElem?_setIfInBounds_ne (by omega), h.at_ a b ha hb]
    have : ¬ ((a : Int) = s ∧ (b : Int) = y) := fun h => e (by omega)
    simp [upd, this]
theorem SaidArr.nil : SaidArr #[.int .u8 0, .int .u8 0, .int .u8 0, .int .u8 0, .int .u8 0, .int .u8 0, .int .u8 0, .int .u8 0, .int .u8 0] (fun _ _ => none) := by
  refine ⟨rfl, fun s y hs hy => ?_⟩
  obtain rfl | rfl | rfl : s = 0 ∨ s = 1 ∨ s = 2 := by omega
  all_goals
    obtain rfl | rfl | rfl : y = 0 ∨ y = 1 ∨ y = 2 := by omega
    all_goals rfl

/-- What was said is yes or no; what was sent was sent once, of the nine. -/
structure Inv (f : Said) (l : List (Int × Int)) : Prop where
  vals : ∀ s y u, f s y = some u → u = 1 ∨ u = 3
  known : ∀ p ∈ l, (f p.1 p.2).isSome = true
  nodup : l.Nodup
  few : ∀ p ∈ l, p.1 < 3 ∧ p.2 < 3
theorem Inv.nil : Inv (fun _ _ => none) [] := ⟨(fun _ _ _ h => by cases h), (fun p h => by simp at h), List.nodup_nil, (fun p h => by simp at h)⟩
theorem Inv.hear {f : Said} {l : List (Int × Int)} (h : Inv f l) {s y : Int} (hs : s < 3) (hy : y < 3) (v : Int) : Inv (hearF f s y v) (hearL f l s y v) := by
  unfold hearF hearL
  cases hf : f s y with
  | some u => exact h
  | none =>
    have hv : ∀ a b u, upd f s y (if v = 1 then 1 else 3) a b = some u → u = 1 ∨ u = 3 := by
      intro a b u hu
      unfold upd at hu
      split at hu
      · injection hu with hu; subst hu; split <;> simp
      · exact h.vals a b u hu
    have hk : ∀ p ∈ l, (upd f s y (if v = 1 then 1 else 3) p.1 p.2).isSome = true := by
      intro p hp
      unfold upd
      split
      · rfl
      · exact h.known p hp
    dsimp only
    by_cases e : v = 1
    · rw [if_pos e] at hv hk ⊢
      rw [if_pos e]
      refine ⟨hv, fun p hp => ?_, ?_, fun p hp => ?_⟩
      · rcases List.mem_append.1 hp with hp | hp
        · exact hk p hp
        · obtain rfl := List.mem_singleton.1 hp
          simp [upd]
      · refine List.nodup_append.2 ⟨h.nodup, by simp, ?_⟩
        intro a ha b hb
        obtain rfl := List.mem_singleton.1 hb
        rintro rfl
        have := h.known _ ha
        rw [hf] at this
        cases this
      · rcases List.mem_append.1 hp with hp | hp
        · exact h.few p hp
        · obtain rfl := List.mem_singleton.1 hp
          exact ⟨hs, hy⟩
    · rw [if_neg e] at hv hk ⊢
      rw [if_neg e]
      exact ⟨hv, hk, h.nodup, h.few⟩
theorem cnt_none {l : List (Int × Int)} {s y : Int} (h : (s, y) ∉ l) : cnt l s y = 0 := by
  unfold cnt
  have : l.filter (fun p => p.1 == s && p.2 == y) = [] := by
    refine List.filter_eq_nil_iff.2 fun p hp => ?_
    intro e
    simp only [Bool.and_eq_true, beq_iff_eq] at e
    exact h (by rw [← e.1, ← e.2]; exact hp)
  rw [this]
  rfl
theorem cnt_once {l : List (Int × Int)} (hn : l.Nodup) {s y : Int} (h : (s, y) ∈ l) : cnt l s y = 1 := by
  induction l with
  | nil => simp at h
  | cons p l ih =>
    obtain ⟨h1, h2⟩ := List.nodup_cons.1 hn
    by_cases e : p = (s, y)
    · subst e
      have := cnt_none h1
      unfold cnt at this ⊢
      rw [List.filter_cons, if_pos (by simp), List.length_cons]
      omega
    · have hm : (s, y) ∈ l := by
        rcases List.mem_cons.1 h with h | h
        · exact absurd h.symm e
        · exact h
      have := ih h2 hm
      unfold cnt at this ⊢
      have e2 : (p.1 == s && p.2 == y) = false := by
        cases hb : (p.1 == s && p.2 == y) with
        | false => rfl
        | true =>
          simp only [Bool.and_eq_true, beq_iff_eq] at hb
          exact absurd (Prod.ext hb.1 hb.2) e
      rw [List.filter_cons, e2]
      simpa using this
end Go.Proofs.Ytmenfodphooacaa
