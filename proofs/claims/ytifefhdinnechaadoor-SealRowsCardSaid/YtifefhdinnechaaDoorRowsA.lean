/- An argument that is a row of rows of bytes, opened; the law over it. -/
import Derived.Test.YtifefhdinnechaaDoorPureSealRows
import Derived.Deep.Matrix
import Derived.ChangeSame
import Derived.OpenShut
namespace Go.Proofs.YtifefhdinnechaaDoor
open Go.ChangeShapes Go.WideShapes Go.Deep
open Go.RowKit Go.Proofs.YtifefhdinnechaaDoor.PA Go.Proofs.YtifefhdinnechaaDoorW.PrintWords
open Go.Proofs.YtifefhdinnechaaDoor.Pure (Bytes bytes_of)
set_option linter.unusedVariables false
structure RowsIn (w : World) (a : Option Addr) (len cap : Nat) (L : List (List Int)) : Prop where
  long : len = L.length
  room : L.length ≤ cap
  byt : ∀ x ∈ L, Bytes x
  row : Kd.C (Kd.slice 5 (Kd.int .u8)) w a L.length L
theorem rows_in {H : Type} {enc : TypeId × Value → H} {W : World} {a : Option Addr} {len cap : Nat} {d : DataW H} {p : List MemPlace} (h : DataW.Trod enc Tryd.prog W 0 (fun _ => true) true 27 (.slice a len cap) d p) : ∃ L, RowsIn W a len cap L := by
  obtain ⟨fuel, hf⟩ := h
  rcases open_int_rows Tryd.underlying27 Tryd.underlying22 Tryd.underlying5 (by kernel_rfl) (by kernel_rfl) hf with ⟨hcs, _⟩ | ⟨x, l, c, A, L, C, Z, hcs, _, hl, hm, _, hr⟩
  · simp [Value.cells] at hcs
    obtain ⟨rfl, rfl, rfl⟩ := hcs
    exact ⟨[], rfl, Nat.le_refl _, (fun x hx => by cases hx), Kd.C_nil _ _⟩
  · simp [Value.cells] at hcs
    obtain ⟨rfl, rfl, rfl⟩ := hcs
    have hll : ∀ r, ((List.range len).map fun r => (Z r).take (L r))[r]? = if r < len then some ((Z r).take (L r)) else none := by
      intro r
      rw [List.getElem?_map]
      by_cases h : r < len
      · rw [if_pos h, List.getElem?_range h]; rfl
      · rw [if_neg h, List.getElem?_eq_none (by simp; omega)]; rfl
    have hlen : ((List.range len).map fun r => (Z r).take (L r)).length = len := by simp
    refine ⟨(List.range len).map fun r => (Z r).take (L r), hlen.symm, by rw [hlen]; exact hl, ?_, ?_⟩
    · intro y hy
      obtain ⟨r, hr1, rfl⟩ := List.mem_map.1 hy
      have hr2 := List.mem_range.1 hr1
      obtain ⟨_, _, _, _, hw, _⟩ := hr r (by omega)
      exact bytes_of (fun n hn => hw n (List.mem_of_mem_take hn))
    · refine ⟨rfl, by rw [hlen]; unfold maxLen at *; omega, fun hp => ⟨_, rfl, fun j q hj => ?_⟩⟩
      rw [hll] at hj
      split at hj
      · rename_i hjl
        injection hj with hj
        subst hj
        obtain ⟨h1, h2, h3, h4, h5, h6, h7⟩ := hr j (by omega)
        have hzl : ((Z j).take (L j)).length = L j := by rw [List.length_take]; omega
        refine ⟨[.slice (A j) ((Z j).take (L j)).length (C j)], rfl, ⟨A j, C j, rfl, by rw [hzl]; exact h2, ?_⟩, ?_⟩
        · refine Kd.C_of_reads (d := (0 : Int)) (enc := Value.int .u8) (h1 := fun _ => rfl) ⟨rfl, by rw [hzl]; unfold maxLen at *; omega, fun hp => ?_⟩
          rw [hzl] at hp
          cases hA : A j with
          | none => have := h6 hA; omega
          | some a' =>
            refine ⟨a', rfl, fun i hi => ?_⟩
            rw [hzl] at hi
            rw [(h7 a' hA).2 i (by omega)]
            simp [List.getD_eq_getElem?_getD, hi]
        · intro i u hu
          match i, hu with
          | 0, hu =>
            have hu' : u = Value.slice (A j) ((Z j).take (L j)).length (C j) := by simpa using hu.symm
            rw [hu', hzl]
            show W.cell? (x.add (j * 1 + 0)) = _
            rw [show j * 1 + 0 = j by omega, h1]
      · cases hj
theorem rows_any (a0 : Int) (a1 : Option Addr) (len1 cap1 : Nat) (z1 : List (List Int)) (a2 : Int) (w : World) (w0 : (Lit.int .u32 a0).wf = true) (hr : RowsIn w a1 len1 cap1 z1) (w2 : (Lit.int .u16 a2).wf = true) (hG : Kd.C (Kd.int .u32) w (some ⟨0, 0, none⟩) 16 gl0) :
    Calls Tryd.prog 4 #[.int .u32 a0, .slice a1 len1 cap1, .int .u16 a2] w fun e w' => e = .returned (.bool true) ∧ Below w.heap.size w w' := by
  obtain ⟨rfl, h2, h3, h4⟩ := hr
  have b0 := bounds_u32 w0
  have b2 := bounds_u16 w2
  obtain ⟨k, hk⟩ := Pure.SealRows a0 z1 a2 (by omega) h3 (by omega)
  exact paybooklaw06_SealRows.calls k a0 a1 cap1 z1 a2 w h4 h2 hG hk
end Go.Proofs.YtifefhdinnechaaDoor
