/- The document's example of a store: it answers true. -/
import Derived.Test.YtjfckbdeadnfhaaStoreC
namespace Go.Proofs.Ytjfckbdeadnfhaa
open Go.RowKit Go.Maps Go.Proofs.YtjfckbdeadnfhaaW.PrintWords
set_option linter.unusedVariables false

abbrev bx6 (k s y t a d : Int) : Obj := .cells #[.int .u8 k, .int .i64 s, .int .i64 y, .int .i64 t, .int .i64 a, .int .u8 d] 27
theorem hear_as {base c m n : Nat} {f : Int → Int → Option Int} {A : Int → Int → Bool} {S : Nat → Prop} (k s y t a v : Int) (w : World) (hk : k = 3 ∨ k = 4) (hs : (Lit.int .i64 s).wf = true) (hy : (Lit.int .i64 y).wf = true) (h : IsStore w base c f A m n S) (hn : n < 900)
    (u : Int) (f' : Int → Int → Option Int) (A' : Int → Int → Bool) (m' : Nat) (e1 : hV f k s y v = u) (e2 : hF f k s y v = f') (e3 : hA f A k s y v = A') (e4 : hM f A m k s y v = m') :
    Calls Try.prog 9 #[.pointer (some ⟨c, 0, none⟩), nt k s y t a 0, .int .u8 v] w fun e w' => e = .returned (.tuple #[nt k s y t a u, .bool true]) ∧ IsStore w' base c f' A' m' (n + 1) S ∧ Fr w w' S := by
  subst e1 e2 e3 e4
  exact hear_store k s y t a v w hk hs hy h hn

theorem IsStore.set {w : World} {base c m n : Nat} {f : Int → Int → Option Int} {A : Int → Int → Bool} {S : Nat → Prop} (h : IsStore w base c f A m n S) {p : Addr} (hp : ¬ S p.block) (u : Value) : IsStore (w.setCell p u) base c f A m n S :=
  h.kept (S' := fun i => i = p.block) ((Fr.refl w (fun i => i = p.block)).set (.inl rfl) u) (fun g hg e => hp (by rw [← show g = p.block from e]; exact hg))
set_option maxHeartbeats 4000000 in
theorem awake_any (w : World) : Calls Try.prog 7 #[] w fun e w' => e = .returned (.bool true) ∧ Below w.heap.size w w' := by
  go_enter Try.func7, Try.ntmps7
  go_wp2_with fail
  go_at_call 8
  refine (new_store (base := w.heap.size) _ (Nat.le_refl _)).mono ?_
  rintro e w1 ⟨c, S, rfl, HC, hB, hS⟩
  go_wp2_with fail
  go_at_call 9
  have q1 := blk_new w1 (bx6 3 1 2 0 0 0)
  have C1 := HC.alloc (bx6 3 1 2 0 0 0)
  have B1 := below_alloc hB (bx6 3 1 2 0 0 0)
  have nS : ¬ S w1.heap.size := fun h => by have := HC.hi _ h; omega
  obtain ⟨g1, hg1⟩ : ∃ g, g = w1.heap.size := ⟨_, rfl⟩
  have hgw : w.heap.size ≤ w1.heap.size := hB.size
  rw [← hg1] at q1 nS hgw ⊢
  obtain ⟨W1, hW1⟩ : ∃ W, W = w1.alloc (bx6 3 1 2 0 0 0) := ⟨_, rfl⟩
  rw [← hW1] at q1 C1 B1
  rw [show w1.alloc (.cells #[.int .u8 3, .int .i64 1, .int .i64 2, .int .i64 0, .int .i64 0, .int .u8 0] 27) = W1 from hW1.symm]
  clear hW1 HC hB hg1
  clear w1
  refine (hear_as 3 1 2 0 0 1 W1 (.inl rfl) (by decide) (by decide) C1 (by omega) 1 (upd (fun _ _ => none) 1 2 1) (updA (fun _ _ => false) 1 2 true) 1 rfl rfl rfl rfl).mono ?_
  rintro e w2 ⟨rfl, C2, F2⟩
  have q2 := F2.at q1 nS
  have B2 : Below w.heap.size w w2 := B1.trans (F2.below B1.size (fun i hi => hS i hi))
  clear F2 q1 C1 B1
  clear W1
  obtain ⟨hn0, hn1, hn2, hn3, hn4, hn5, hnf⟩ := cells6 q2
  have hlt1 := blk_lt q2
  go_wp2_with fail
  go_at_call 10
  have a1 : updA (fun _ _ => false) 1 2 true 1 2 = true := by simp [updA]
  refine (aside_store 1 2 _ (by decide) (by decide) (C2.alloc (bx6 3 1 2 0 0 1))).mono ?_
  rw [a1]
  rintro e w3 ⟨rfl, rfl⟩
  go_wp2_with fail
  go_at_call 9
  have q3 := blk_alloc (blk_put q2 0 (.int .u8 4) rfl) (bx6 3 1 2 0 0 1)
  have r3 := blk_new (w2.setCell ⟨g1, 0, none⟩ (.int .u8 4)) (bx6 3 1 2 0 0 1)
  have C3 := (C2.set (p := ⟨g1, 0, none⟩) nS (.int .u8 4)).alloc (bx6 3 1 2 0 0 1)
  have B3 := below_alloc (B2.setCell (p := ⟨g1, 0, none⟩) hgw (.int .u8 4)) (bx6 3 1 2 0 0 1)
  rw [show (w2.setCell ⟨g1, 0, none⟩ (.int .u8 4)).heap.size = w2.heap.size by simp [World.setCell]] at r3
  have nS3 : ¬ S w2.heap.size := fun h => by have := C2.hi _ h; omega
  have ne3 : g1 ≠ w2.heap.size := Nat.ne_of_lt hlt1
  obtain ⟨g3, hg3⟩ : ∃ g, g = w2.heap.size := ⟨_, rfl⟩
  rw [← hg3] at r3 nS3 ne3 ⊢
  obtain ⟨W3, hW3⟩ : ∃ W, W = (w2.setCell ⟨g1, 0, none⟩ (.int .u8 4)).alloc (bx6 3 1 2 0 0 1) := ⟨_, rfl⟩
  rw [← hW3] at q3 r3 C3 B3 ⊢
  clear hW3 hg3 q2 B2 C2 hn0 hn1 hn2 hn3 hn4 hn5 hnf hlt1 a1
  clear w2
  refine (hear_as 4 1 2 0 0 3 W3 (.inr rfl) (by decide) (by decide) C3 (by omega) 1 (upd (fun _ _ => none) 1 2 1) (updA (updA (fun _ _ => false) 1 2 true) 1 2 false) 0 rfl rfl rfl (by simp [hM, updA])).mono ?_
  rintro e w4 ⟨rfl, C4, F4⟩
  have q4 := F4.at q3 nS
  have r4 := F4.at r3 nS3
  have B4 : Below w.heap.size w w4 := B3.trans (F4.below B3.size (fun i hi => hS i hi))
  clear F4 q3 r3 C3 B3
  clear W3
  obtain ⟨hn0, hn1, hn2, hn3, hn4, hn5, hnf⟩ := cells6 q4
  have hlt1 := blk_lt q4
  go_wp2_with fail
  go_at_call 9
  have q5 := blk_put q4 0 (.int .u8 3) rfl
  have r5 := blk_far r4 (p := ⟨g1, 0, none⟩) ne3.symm (.int .u8 3)
  have C5 := C4.set (p := ⟨g1, 0, none⟩) nS (.int .u8 3)
  have B5 := B4.setCell (p := ⟨g1, 0, none⟩) hgw (.int .u8 3)
  obtain ⟨W5, hW5⟩ : ∃ W, W = w4.setCell ⟨g1, 0, none⟩ (.int .u8 3) := ⟨_, rfl⟩
  rw [← hW5] at q5 r5 C5 B5 ⊢
  clear hW5 q4 r4 B4 C4 hn0 hn1 hn2 hn3 hn4 hn5 hnf hlt1
  clear w4
  refine (hear_as 3 1 2 0 0 1 W5 (.inl rfl) (by decide) (by decide) C5 (by omega) 1 (upd (fun _ _ => none) 1 2 1) (updA (updA (fun _ _ => false) 1 2 true) 1 2 false) 0 rfl rfl rfl (by simp [hM, upd])).mono ?_
  rintro e w6 ⟨rfl, C6, F6⟩
  have r6 := F6.at r5 nS3
  have B6 : Below w.heap.size w w6 := B5.trans (F6.below B5.size (fun i hi => hS i hi))
  clear F6 q5 r5 C5 B5
  clear W5
  obtain ⟨hn0, hn1, hn2, hn3, hn4, hn5, hnf⟩ := cells6 r6
  have hlt1 := blk_lt r6
  go_wp2_with fail
  go_at_call 10
  have a1 : updA (updA (fun _ _ => false) 1 2 true) 1 2 false 1 2 = false := by simp [updA]
  refine (aside_store 1 2 _ (by decide) (by decide) (C6.alloc (bx6 3 1 2 0 0 1))).mono ?_
  rw [a1]
  rintro e w7 ⟨rfl, rfl⟩
  go_wp2_with fail
  go_ret
  exact ⟨by rfl, below_alloc B6 _⟩
end Go.Proofs.Ytjfckbdeadnfhaa
