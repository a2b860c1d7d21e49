/- A thing that lies in blocks of its own, and other blocks beside it: what turns one of them. -/
import Derived.Test.YtjfckbdeadnfhaaStoreF
namespace Go.Proofs.Ytjfckbdeadnfhaa
open Go.RowKit Go.Maps Go.Proofs.YtjfckbdeadnfhaaW.PrintWords
set_option linter.unusedVariables false

/-- I holds of the blocks of S; G are blocks beside them. -/
structure Hd (I : World → Prop) (w0 w : World) (S : Nat → Prop) (G : List (Nat × Obj)) : Prop where
  st : I w
  out : ∀ p ∈ G, ¬ S p.1
  lo : ∀ i, S i → w0.heap.size ≤ i
  hi : ∀ i, S i → i < w.heap.size
  blk : ∀ p ∈ G, w.heap[p.1]? = some p.2
  glo : ∀ p ∈ G, w0.heap.size ≤ p.1
  nd : (G.map Prod.fst).Nodup
  below : Below w0.heap.size w0 w
/-- I speaks of the blocks of S alone. -/
def Local (I : World → Prop) (S : Nat → Prop) : Prop := ∀ (w w' : World) (S' : Nat → Prop), I w → Fr w w' S' → (∀ g, S g → ¬ S' g) → I w'
variable {I : World → Prop} {w0 w w' : World} {S : Nat → Prop} {G G' : List (Nat × Obj)}
theorem Hd.kept (h : Hd I w0 w S G) (L : Local I S) {S' : Nat → Prop} (k : Fr w w' S') (hs : ∀ i, S' i → ¬ S i ∧ w0.heap.size ≤ i) (hG : ∀ p ∈ G', w'.heap[p.1]? = some p.2 ∧ (p.1 ∈ G.map Prod.fst ∨ w.heap.size ≤ p.1)) (hn : (G'.map Prod.fst).Nodup) : Hd I w0 w' S G' := by
  refine ⟨L w w' S' h.st k (fun g h1 h2 => (hs g h2).1 h1), fun p hp hS => ?_, h.lo, fun i hi => Nat.lt_of_lt_of_le (h.hi i hi) k.size, fun p hp => (hG p hp).1, fun p hp => ?_, hn, h.below.trans (k.below h.below.size (fun i hi => (hs i hi).2))⟩
  · rcases (hG p hp).2 with h1 | h1
    · obtain ⟨q, hq, e⟩ := List.mem_map.1 h1
      exact h.out q hq (by rw [e]; exact hS)
    · have := h.hi _ hS; omega
  · rcases (hG p hp).2 with h1 | h1
    · obtain ⟨q, hq, e⟩ := List.mem_map.1 h1
      rw [← e]; exact h.glo q hq
    · exact Nat.le_trans h.below.size h1
theorem Hd.belowed (h : Hd I w0 w S G) (L : Local I S) (hb : Below w.heap.size w w') : Hd I w0 w' S G :=
  h.kept L (S' := fun _ => False) (Fr.of_below hb _) (fun _ h => h.elim) (fun p hp => ⟨blk_below (h.blk p hp) hb, .inl (List.mem_map_of_mem hp)⟩) h.nd
theorem Hd.drewN (h : Hd I w0 w S G) (L : Local I S) (m : Nat) : Hd I w0 (w.drewN m) S G := h.belowed L ⟨rfl, rfl, rfl, Nat.le_refl _, fun _ _ => rfl⟩
theorem Hd.still {V : World} (h : Hd I w0 w S G) (L : Local I S) (e : V.heap = w.heap) (hb : Below V.heap.size w V) : Hd I w0 V S G :=
  h.belowed L ⟨hb.os, hb.tape, hb.output, by rw [e]; exact Nat.le_refl _, fun i _ => by rw [e]⟩
theorem Hd.alloc (h : Hd I w0 w S G) (L : Local I S) (o : Obj) : Hd I w0 (w.alloc o) S ((w.heap.size, o) :: G) := by
  refine h.kept L (S' := fun _ => False) (Fr.of_below (below_alloc (Below.refl _ _) _) _) (fun _ h => h.elim) (fun p hp => ?_) ?_
  · rcases List.mem_cons.1 hp with rfl | hp
    · exact ⟨blk_new _ _, .inr (Nat.le_refl _)⟩
    · exact ⟨blk_alloc (h.blk p hp) _, .inl (List.mem_map_of_mem hp)⟩
  · refine List.nodup_cons.2 ⟨fun hm => ?_, h.nd⟩
    obtain ⟨q, hq, e⟩ := List.mem_map.1 hm
    have := blk_lt (h.blk q hq)
    rw [e] at this
    exact Nat.lt_irrefl _ this
theorem Hd.tail {p : Nat × Obj} (h : Hd I w0 w S (p :: G)) : Hd I w0 w S G :=
  ⟨h.st, fun q hq => h.out q (List.mem_cons_of_mem _ hq), h.lo, h.hi, fun q hq => h.blk q (List.mem_cons_of_mem _ hq), fun q hq => h.glo q (List.mem_cons_of_mem _ hq), (List.nodup_cons.1 h.nd).2, h.below⟩
/-- One block is another one. -/
theorem Hd.putL {P Q : List (Nat × Obj)} {g : Nat} {A : Array Value} {t : TypeId} (h : Hd I w0 w S (P ++ (g, .cells A t (0, 0)) :: Q)) (L : Local I S) (j : Nat) (u : Value) (hu : u.oneCell' = true) :
    Hd I w0 (w.setCell ⟨g, j, none⟩ u) S (P ++ (g, .cells (A.setIfInBounds j u) t (0, 0)) :: Q) := by
  have hg : (g, Obj.cells A t (0, 0)) ∈ P ++ (g, .cells A t (0, 0)) :: Q := by simp
  have hb := h.blk _ hg
  have hnd := h.nd
  refine h.kept L (S' := fun i => i = g) ((Fr.refl w (fun i => i = g)).set (p := ⟨g, j, none⟩) (.inl rfl) u) (fun i hi => ?_) (fun p hp => ?_) (by simpa using hnd)
  · have e : i = g := hi
    subst e
    exact ⟨h.out _ hg, h.glo _ hg⟩
  · have hcase : p = (g, .cells (A.setIfInBounds j u) t (0, 0)) ∨ p ∈ P ∨ p ∈ Q := by
      rcases List.mem_append.1 hp with hp | hp
      · exact .inr (.inl hp)
      · rcases List.mem_cons.1 hp with hp | hp
        · exact .inl hp
        · exact .inr (.inr hp)
    rcases hcase with rfl | hPQ
    · exact ⟨blk_put hb j u (by cases u <;> first | rfl | simp [Value.oneCell'] at hu), .inl (by simp)⟩
    · have hm : p ∈ P ++ (g, .cells A t (0, 0)) :: Q := by
        rcases hPQ with h | h <;> simp [h]
      have hne : p.1 ≠ g := by
        intro e
        rw [List.map_append, List.map_cons] at hnd
        obtain ⟨_, h2, h3⟩ := List.nodup_append.1 hnd
        rcases hPQ with h | h
        · exact h3 p.1 (List.mem_map_of_mem h) g (by simp) e
        · exact (List.nodup_cons.1 h2).1 (by have h5 := List.mem_map_of_mem (f := Prod.fst) h; rw [e] at h5; exact h5)
      exact ⟨(Below.heap_setCell w _ u p.1 hne).trans (h.blk p hm), .inl (List.mem_map_of_mem hm)⟩
/-- Another thing holds of the blocks of S, and of no others anything else. -/
theorem Hd.turn {J : World → Prop} (h : Hd I w0 w S G) (k : Fr w w' S) (hJ : J w') : Hd J w0 w' S G :=
  ⟨hJ, h.out, h.lo, fun i hi => Nat.lt_of_lt_of_le (h.hi i hi) k.size, fun p hp => k.at (h.blk p hp) (h.out p hp), h.glo, h.nd, h.below.trans (k.below h.below.size h.lo)⟩
theorem Hd.mono {J : World → Prop} (h : Hd I w0 w S G) (k : ∀ w, I w → J w) : Hd J w0 w S G := ⟨k _ h.st, h.out, h.lo, h.hi, h.blk, h.glo, h.nd, h.below⟩
theorem IsStore.succ {w : World} {base c m n : Nat} {f : Int → Int → Option Int} {A : Int → Int → Bool} {S : Nat → Prop} (h : IsStore w base c f A m n S) : IsStore w base c f A m (n + 1) S := by
  obtain ⟨bm, ba, D1, D2, h0, h1, h2, h3, h4, h5, h6, h7, h8⟩ := h.ex
  exact ⟨⟨bm, ba, D1, D2, h0, h1, h2.mono (Nat.le_succ _), h3.mono (Nat.le_succ _), h4, h5, h6, h7, h8⟩, h.lo, h.hi⟩
theorem Hd.six {g : Nat} {k s y t a d : Int} (h : Hd I w0 w S G) (hg : (g, bx6 k s y t a d) ∈ G) : w.cell? ⟨g, 0, none⟩ = some (.int .u8 k) ∧ w.cell? ⟨g, 1, none⟩ = some (.int .i64 s) ∧ w.cell? ⟨g, 2, none⟩ = some (.int .i64 y) ∧ w.cell? ⟨g, 3, none⟩ = some (.int .i64 t) ∧ w.cell? ⟨g, 4, none⟩ = some (.int .i64 a) ∧ w.cell? ⟨g, 5, none⟩ = some (.int .u8 d) ∧ ∀ j, w.frozen? ⟨g, j, none⟩ = false :=
  cells6 (h.blk _ hg)
theorem Hd.at_ {g j : Nat} {A : Array Value} {t : TypeId} {v : Value} (h : Hd I w0 w S G) (hg : (g, .cells A t (0, 0)) ∈ G) (e : A[j]? = some v) : w.cell? ⟨g, j, none⟩ = some v ∧ w.frozen? ⟨g, j, none⟩ = false :=
  ⟨(blk_cell (h.blk _ hg) j).trans e, blk_frozen (h.blk _ hg) j⟩
theorem Hd.sub2 {p q a b c d : Nat × Obj} (h : Hd I w0 w S [a, b, c, d, p, q]) : Hd I w0 w S [p, q] := h.tail.tail.tail.tail
theorem Hd.cells {g : Nat} {A : Array Value} {t : TypeId} (h : Hd I w0 w S G) (hg : (g, .cells A t (0, 0)) ∈ G) : w.heap[g]? = some (.cells A t (0, 0)) := h.blk _ hg
theorem local_store {base c m n : Nat} {f : Int → Int → Option Int} {A : Int → Int → Bool} {S : Nat → Prop} : Local (fun w => IsStore w base c f A m n S) S := fun w w' S' h k hs => h.kept k hs
end Go.Proofs.Ytjfckbdeadnfhaa
