/- Two appends, one behind the other, onto a row of a call's own. -/
import Derived.Test.YtpmlbomkjegkgaaPostO
import Derived.Test.YtpmlbomkjegkgaaPostF
namespace Go.Proofs.Ytpmlbomkjegkgaa
open Go.RowKit Go.Proofs.YtpmlbomkjegkgaaW.PrintWords
set_option linter.unusedVariables false
theorem bel_drew {B : Nat} {w W : World} (h : Below B w W) : Below B w W.drew := ⟨h.os, h.tape, h.output, h.size, h.block⟩
theorem nil_block (k : Nat) : ¬ some k = (Value.slice none 0 0).ownBlock := by simp [Value.ownBlock]
theorem two_appends {w w5 W1 w1 X w2 Y : World} {c : Nat} {v6 v1 v2 : Value} {M1 M : List (Int × List Int)} {L2' : List Let} (HB5 : Both w w5 c v6 M1 M) (b1 : Below w5.heap.size w5 W1) (f1 : Fr W1 w1 (fun i => some i = (Value.slice none 0 0).ownBlock))
    (a1 : ∀ k, some k = v1.ownBlock → some k = (Value.slice none 0 0).ownBlock ∨ W1.heap.size ≤ k) (b2 : Below w1.heap.size w1 X) (f2 : Fr X w2 (fun i => some i = v1.ownBlock)) (a2 : ∀ k, some k = v2.ownBlock → some k = v1.ownBlock ∨ X.heap.size ≤ k) (b3 : Below w2.heap.size w2 Y)
    (hrow : RowP w2 w.heap.size 32 2 v2 L2'.length (flat L2')) (hl : ∀ p ∈ L2', RowP w5 w.heap.size 5 1 p.2.1 p.2.2.length (p.2.2.map (Value.int .u8))) : Both w Y c v2 M1 (L2'.map bare) := by
  have s1 := b1.size
  have s2 := f1.size
  have s3 := b2.size
  have g1 : ∀ k, some k = v1.ownBlock → w5.heap.size ≤ k := fun k hk => by
    rcases a1 k hk with h | h
    · exact absurd h (nil_block k)
    · omega
  have F1 : Fr w5 w1 (fun i => some i = v1.ownBlock) := (Fr.of_below b1 _).trans (f1.mono (fun i hi => absurd hi (nil_block i)))
  have F2 : Fr w5 X (fun i => some i = v1.ownBlock) := F1.trans (Fr.of_below b2 _)
  have F3 : Fr w5 w2 (fun i => some i = v1.ownBlock) := F2.trans f2
  refine (HB5.row F3 (fun i hi => .inr (g1 i hi)) hrow hl (fun k hk => .inr ?_)).belowed b3
  rcases a2 k hk with h | h
  · exact g1 k h
  · omega
/-- What a letter of the row is: its party, and a row of bytes. -/
theorem let_at {w : World} {b : Nat} {L2 : List Let} {M : List (Int × List Int)} (hl : ∀ p ∈ L2, RowP w b 5 1 p.2.1 p.2.2.length (p.2.2.map (Value.int .u8))) (hM : L2.map bare = M) {k : Nat} {p : Int × List Int} (hp : M[k]? = some p) :
    ∃ pv, L2[k]? = some (p.1, pv, p.2) ∧ RowP w b 5 1 pv p.2.length (p.2.map (Value.int .u8)) ∧ pv.oneCell' = true := by
  rw [← hM, List.getElem?_map] at hp
  cases h : L2[k]? with
  | none => rw [h] at hp; cases hp
  | some q =>
    rw [h] at hp
    have e : bare q = p := by simpa using hp
    subst e
    have hq := hl q (List.mem_of_getElem? h)
    refine ⟨q.2.1, rfl, hq, ?_⟩
    obtain ⟨A, c, e⟩ := hq.form
    show q.2.1.oneCell' = true
    rw [show q.2.1 = _ from e]; rfl
theorem flat_one {w : World} {b : Nat} {L2 : List Let} (hl : ∀ p ∈ L2, RowP w b 5 1 p.2.1 p.2.2.length (p.2.2.map (Value.int .u8))) : ∀ u ∈ flat L2, u.oneCell' = true := by
  intro u hu
  obtain ⟨q, hq, hu⟩ := List.mem_flatMap.1 hu
  obtain ⟨A', c', hf⟩ := (hl q hq).form
  simp only [List.mem_cons, List.not_mem_nil, or_false] at hu
  rcases hu with rfl | rfl
  · rfl
  · rw [hf]; rfl
/-- The first k of a row of letters, where they lie. -/
theorem flat_take (L : List Let) (k : Nat) (j : Nat) (u : Value) (h : (flat (L.take k))[j]? = some u) : (flat L)[j]? = some u := by
  have e : L = L.take k ++ L.drop k := (List.take_append_drop k L).symm
  have hj : j < (flat (L.take k)).length := by
    rcases Nat.lt_or_ge j (flat (L.take k)).length with h1 | h1
    · exact h1
    · rw [List.getElem?_eq_none h1] at h; cases h
  rw [e, flat_app, List.getElem?_append_left hj]
  exact h
theorem flat_drop (L : List Let) (k : Nat) (hk : k ≤ L.length) (j : Nat) (u : Value) (h : (flat (L.drop k))[j]? = some u) : (flat L)[k * 2 + j]? = some u := by
  have e : L = L.take k ++ L.drop k := (List.take_append_drop k L).symm
  conv => lhs; rw [e, flat_app]
  rw [List.getElem?_append_right (by rw [flat_len, List.length_take]; omega), flat_len, List.length_take, show k * 2 + j - min k L.length * 2 = j by rw [Nat.min_eq_left hk]; omega]
  exact h
theorem rec_cells {w5 w1 : World} {x y : Value} (h : Fr (w5.alloc (.cells #[x, y] 32)).drew w1 (fun i => some i = (Value.slice none 0 0).ownBlock)) : ∀ j u, [x, y][j]? = some u → w1.cell? ((⟨w5.heap.size, 0, none⟩ : Addr).add j) = some u := by
  intro j u hj
  have h1 : w1.heap[w5.heap.size]? = some (.cells #[x, y] 32 (0, 0)) := h.at (show (w5.alloc (.cells #[x, y] 32)).heap[w5.heap.size]? = _ from blk_new _ _) (nil_block _)
  rw [add_plain, blk_cell h1]
  simpa using hj
end Go.Proofs.Ytpmlbomkjegkgaa
