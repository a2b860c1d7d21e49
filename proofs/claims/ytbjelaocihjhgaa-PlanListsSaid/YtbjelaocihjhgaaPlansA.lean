/- An argument that is a row of plans, opened; the law over it. -/
import Derived.Test.YtbjelaocihjhgaaPurePlanLists
import Derived.Deep.Slices
import Derived.Deep.Fields
import Derived.ChangeSame
import Derived.OpenShut
namespace Go.Proofs.Ytbjelaocihjhgaa
open Go.ChangeShapes Go.WideShapes Go.Deep
open Go.RowKit Go.Proofs.Ytbjelaocihjhgaa.PA Go.Proofs.YtbjelaocihjhgaaW.PrintWords
open Go.Proofs.Ytbjelaocihjhgaa.Pure (Wf)
set_option linter.unusedVariables false
section
variable {H : Type} {enc : TypeId × Value → H} {P : Program} {w : World} {base : Nat} {spare : Nat → Bool} {held : Bool}
/-- Of each element each field's cell, and how it reads. -/
theorem open_fields {t e : TypeId} {fs : Array Field} {fuel : Nat} {cs : List Value} {x : DataW H × List MemPlace} (ht : P.underlying t = some (.slice e)) (he : P.underlying e = some (.struct fs))
    (hone : oneCellFields P fs = true) (hC : P.cellsOf e = fs.size) (h : DataW.trod enc P w base spare held fuel t cs = some x) :
    cs = [.slice none 0 0] ∨ ∃ (a : Addr) (len cap : Nat), cs = [.slice (some a) len cap] ∧ len ≤ cap ∧ cap ≤ maxLen ∧ ∀ i, i < len → ∀ (j : Nat) (f : Field), fs[j]? = some f →
      ∃ (v : Value) (y : DataW H × List MemPlace) (n : Nat), w.cell? (a.add (i * fs.size + j)) = some v ∧ DataW.trod enc P w base spare held n f.type [v] = some y := by
  rcases open_slice ht h with ⟨h0, _⟩ | ⟨a, len, cap, m, n, D, Pl, hcs, _, hl, hm, hmm, _, hi⟩
  · exact .inl h0
  · refine .inr ⟨a, len, cap, hcs, hl, hm, fun i hil j f hj => ?_⟩
    obtain ⟨ds, hc, hd⟩ := hi i (by rw [hmm]; split <;> omega)
    rw [hC] at hc
    obtain ⟨ys, n', _, _, _, hyl, hf⟩ := DataW.trod_struct he hd
    obtain ⟨_, hdl, hat⟩ := World.cells?_some hc
    obtain ⟨ho, hk⟩ := hone_of hone j f hj
    have hjl : j < fs.size := (Array.getElem?_eq_some_iff.1 hj).1
    have h1 := hf j f hj
    rw [ho, hk, List.drop_eq_getElem_cons (by omega), List.getElem?_eq_getElem (by omega)] at h1
    refine ⟨_, _, n', ?_, h1⟩
    have h2 := hat j hjl
    rw [List.getElem?_eq_getElem (by omega)] at h2
    rw [← h2, Go.Deep.add_add]
end
structure PlansIn (w : World) (a : Option Addr) (len cap : Nat) (L : List S23) : Prop where
  long : len = L.length
  room : L.length ≤ cap
  wf : ∀ p ∈ L, Wf p
  row : Kd.C k23 w a L.length L
def CellsAt (w : World) (x : Addr) (i : Nat) (s : S23) : Prop :=
  w.cell? (x.add (i * 6 + 0)) = some (.int .i64 s.f0) ∧ w.cell? (x.add (i * 6 + 1)) = some (.int .u8 s.f1) ∧ w.cell? (x.add (i * 6 + 2)) = some (.int .i64 s.f2) ∧ w.cell? (x.add (i * 6 + 3)) = some (.int .i64 s.f3) ∧ w.cell? (x.add (i * 6 + 4)) = some (.bool s.f4) ∧ w.cell? (x.add (i * 6 + 5)) = some (.bool s.f5)
theorem plans_in {H : Type} {enc : TypeId × Value → H} {W : World} {a : Option Addr} {len cap : Nat} {d : DataW H} {p : List MemPlace} (h : DataW.Trod enc Try.prog W 0 (fun _ => true) true 36 (.slice a len cap) d p) : ∃ L, PlansIn W a len cap L := by
  obtain ⟨fuel, hf⟩ := h
  rcases open_fields Try.underlying36 Try.underlying23 (by kernel_rfl) (by kernel_rfl) hf with hcs | ⟨x, l, c, hcs, hl, hm, hi⟩
  · simp [Value.cells] at hcs
    obtain ⟨rfl, rfl, rfl⟩ := hcs
    exact ⟨[], rfl, Nat.le_refl _, (fun x hx => by cases hx), Kd.C_nil _ _⟩
  · simp [Value.cells] at hcs
    obtain ⟨rfl, rfl, rfl⟩ := hcs
    have one : ∀ (i j : Nat) (f : Field) (k : IntKind) (t : TypeId), Try.prog.underlying t = some (.int k) → f.type = t → (∃ (v : Value) (y : DataW H × List MemPlace) (n : Nat), W.cell? (x.add (i * 6 + j)) = some v ∧ DataW.trod enc Try.prog W 0 (fun _ => true) true n f.type [v] = some y) → ∃ n : Int, W.cell? (x.add (i * 6 + j)) = some (.int k n) ∧ (Lit.int k n).wf = true := by
      rintro i j f k t hu e ⟨v, y, n, hc, ht⟩
      rw [e] at ht
      obtain ⟨z, hz, _, hw⟩ := DataW.trod_int hu ht
      obtain rfl : v = .int k z := by simpa using hz
      exact ⟨z, hc, hw⟩
    have onb : ∀ (i j : Nat) (f : Field), f.type = 4 → (∃ (v : Value) (y : DataW H × List MemPlace) (n : Nat), W.cell? (x.add (i * 6 + j)) = some v ∧ DataW.trod enc Try.prog W 0 (fun _ => true) true n f.type [v] = some y) → ∃ n : Bool, W.cell? (x.add (i * 6 + j)) = some (.bool n) := by
      rintro i j f e ⟨v, y, n, hc, ht⟩
      rw [e] at ht
      obtain ⟨z, hz, _⟩ := DataW.trod_bool Try.underlying4 ht
      obtain rfl : v = .bool z := by simpa using hz
      exact ⟨z, hc⟩
    have each : ∀ i, i < len → ∃ s : S23, Wf s ∧ CellsAt W x i s := by
      intro i hil
      obtain ⟨n0, c0, w0⟩ := one i 0 _ _ _ Try.underlying2 rfl (hi i hil 0 _ rfl)
      obtain ⟨n1, c1, w1⟩ := one i 1 _ _ _ Try.underlying5 rfl (hi i hil 1 _ rfl)
      obtain ⟨n2, c2, w2⟩ := one i 2 _ _ _ Try.underlying3 rfl (hi i hil 2 _ rfl)
      obtain ⟨n3, c3, w3⟩ := one i 3 _ _ _ Try.underlying3 rfl (hi i hil 3 _ rfl)
      obtain ⟨n4, c4⟩ := onb i 4 _ rfl (hi i hil 4 _ rfl)
      obtain ⟨n5, c5⟩ := onb i 5 _ rfl (hi i hil 5 _ rfl)
      exact ⟨⟨n0, n1, n2, n3, n4, n5⟩, ⟨w0, w1, w2, w3⟩, c0, c1, c2, c3, c4, c5⟩
    obtain ⟨F, hF⟩ : ∃ F : Nat → S23, ∀ i, i < len → Wf (F i) ∧ CellsAt W x i (F i) := by
      classical
      refine ⟨fun i => if h : i < len then (each i h).choose else z23, fun i h => ?_⟩
      simp only [dif_pos h]
      exact (each i h).choose_spec
    have hlen : ((List.range len).map F).length = len := by simp
    refine ⟨(List.range len).map F, hlen.symm, by rw [hlen]; exact hl, ?_, ?_⟩
    · intro y hy
      obtain ⟨r, hr1, rfl⟩ := List.mem_map.1 hy
      exact (hF r (List.mem_range.1 hr1)).1
    · refine ⟨rfl, by rw [hlen]; unfold maxLen at *; omega, fun hp => ⟨_, rfl, fun j q hj => ?_⟩⟩
      have hjl : j < len := by
        rcases Nat.lt_or_ge j len with h1 | h1
        · exact h1
        · rw [List.getElem?_eq_none (by simp; omega)] at hj; cases hj
      rw [List.getElem?_map, List.getElem?_range hjl] at hj
      injection hj with hj
      subst hj
      refine ⟨[.int .i64 (F j).f0, .int .u8 (F j).f1, .int .i64 (F j).f2, .int .i64 (F j).f3, .bool (F j).f4, .bool (F j).f5], rfl, k23_mk W (F j), ?_⟩
      obtain ⟨c0, c1, c2, c3, c4, c5⟩ := (hF j hjl).2
      intro i u hu
      show W.cell? (x.add (j * 6 + i)) = some u
      match i, hu with
      | 0, hu => rw [c0]; simpa using hu
      | 1, hu => rw [c1]; simpa using hu
      | 2, hu => rw [c2]; simpa using hu
      | 3, hu => rw [c3]; simpa using hu
      | 4, hu => rw [c4]; simpa using hu
      | 5, hu => rw [c5]; simpa using hu
theorem lists_any (a0 : Option Addr) (len0 cap0 : Nat) (z0 : List S23) (a1 : Int) (w : World) (hr : PlansIn w a0 len0 cap0 z0) :
    Calls Try.prog 6 #[.slice a0 len0 cap0, .int .i64 a1] w fun e w' => e = .returned (.bool true) ∧ Below w.heap.size w w' := by
  obtain ⟨rfl, h2, h3, h4⟩ := hr
  obtain ⟨k, hk⟩ := Pure.PlanLists z0 h3 a1
  exact paybooklaw09_PlanLists.calls k a0 cap0 z0 a1 w h4 h2 hk
end Go.Proofs.Ytbjelaocihjhgaa
