/- An argument that is a row of acts, opened to its cells. -/
import Derived.Test.YtjfckbdeadnfhaaStoreJ
import Derived.Deep.Slices
import Derived.Deep.Fields
import Derived.ChangeSame
import Derived.OpenShut
namespace Go.Proofs.Ytjfckbdeadnfhaa
open Go.ChangeShapes Go.WideShapes Go.Deep
set_option linter.unusedVariables false
section
variable {H : Type} {enc : TypeId × Value → H} {P : Program} {w : World} {base : Nat} {spare : Nat → Bool} {held : Bool}
/-- Of each element each field's cell, and how it reads. -/
theorem open_fields {t e : TypeId} {fs : Array Field} {fuel : Nat} {cs : List Value} {x : DataW H × List MemPlace} (ht : P.underlying t = some (.slice e)) (he : P.underlying e = some (.struct fs))
    (hone : oneCellFields P fs = true) (hC : P.cellsOf e = fs.size) (h : DataW.trod enc P w base spare held fuel t cs = some x) :
    cs = [.slice none 0 0] ∨ ∃ (a : Addr) (len cap : Nat), cs = [.slice (some a) len cap] ∧ ∀ i, i < len → ∀ (j : Nat) (f : Field), fs[j]? = some f →
      ∃ (v : Value) (y : DataW H × List MemPlace) (n : Nat), w.cell? (a.add (i * fs.size + j)) = some v ∧ DataW.trod enc P w base spare held n f.type [v] = some y := by
  rcases open_slice ht h with ⟨h0, _⟩ | ⟨a, len, cap, m, n, D, Pl, hcs, _, hl, _, hmm, _, hi⟩
  · exact .inl h0
  · refine .inr ⟨a, len, cap, hcs, fun i hil j f hj => ?_⟩
    obtain ⟨ds, hc, hd⟩ := hi i (by rw [hmm]; split <;> omega)
    rw [hC] at hc
    obtain ⟨ys, n', _, _, _, hyl, hf⟩ := DataW.trod_struct he hd
    obtain ⟨_, hdl, hat⟩ := World.cells?_some hc
    obtain ⟨ho, hk⟩ := hone_of hone j f hj
    have hjl : j < fs.size := (Array.getElem?_eq_some_iff.1 hj).1
    have h1 := hf j f hj
    rw [ho, hk, List.drop_eq_getElem_cons (by omega), List.getElem?_eq_getElem (by omega)] at h1
    refine ⟨_, _, n', ?_, h1⟩
    have h2 := hat j hjl
    rw [List.getElem?_eq_getElem (by omega)] at h2
    rw [← h2, Go.Deep.add_add]
end
/-- A row of acts. -/
theorem acts_in {H : Type} {enc : TypeId × Value → H} {W : World} {a : Option Addr} {len cap : Nat} {d : DataW H} {p : List MemPlace} (h : DataW.Trod enc Try.prog W 0 (fun _ => true) true 32 (.slice a len cap) d p) : ∃ Z, RowA W a len Z := by
  obtain ⟨fuel, hf⟩ := h
  rcases open_fields Try.underlying32 Try.underlying38 (by kernel_rfl) (by kernel_rfl) hf with hcs | ⟨x, l, c, hcs, hi⟩
  · simp [Value.cells] at hcs
    obtain ⟨rfl, rfl, rfl⟩ := hcs
    exact ⟨fun _ _ => 0, ⟨fun i j hi => by omega, fun i j hi => by omega⟩⟩
  · simp [Value.cells] at hcs
    obtain ⟨rfl, rfl, rfl⟩ := hcs
    have hh : ∀ i j, i < len → j < 4 → ∃ n : Int, W.cell? (x.add (i * 4 + j)) = some (.int .u8 n) ∧ 0 ≤ n ∧ n ≤ 255 := by
      intro i j hil hj
      have hx : ∀ (f : Field), f.type = 5 → (∃ (v : Value) (y : DataW H × List MemPlace) (n : Nat), W.cell? (x.add (i * 4 + j)) = some v ∧ DataW.trod enc Try.prog W 0 (fun _ => true) true n f.type [v] = some y) → ∃ n : Int, W.cell? (x.add (i * 4 + j)) = some (.int .u8 n) ∧ 0 ≤ n ∧ n ≤ 255 := by
        rintro f e ⟨v, y, n, hc, ht⟩
        rw [e] at ht
        obtain ⟨z, hz, _, hw⟩ := DataW.trod_int Try.underlying5 ht
        obtain rfl : v = .int .u8 z := by simpa using hz
        have := (Lit.wf_int_iff _ _).1 hw
        rw [show IntKind.u8.min = 0 by decide, show IntKind.u8.max = 255 by decide] at this
        exact ⟨z, hc, this⟩
      obtain rfl | rfl | rfl | rfl : j = 0 ∨ j = 1 ∨ j = 2 ∨ j = 3 := by omega
      · exact hx _ rfl (hi i hil 0 _ rfl)
      · exact hx _ rfl (hi i hil 1 _ rfl)
      · exact hx _ rfl (hi i hil 2 _ rfl)
      · exact hx _ rfl (hi i hil 3 _ rfl)
    refine ⟨fun i j => match W.cell? (x.add (i * 4 + j)) with | some (.int _ n) => n | _ => 0, ⟨fun i j hi hj => ?_, fun i j hi hj => ?_⟩⟩
    · obtain ⟨n, h1, h2⟩ := hh i j hi hj
      exact ⟨x, rfl, by rw [h1]⟩
    · obtain ⟨n, h1, h2⟩ := hh i j hi hj
      rw [h1]
      exact h2
end Go.Proofs.Ytjfckbdeadnfhaa
