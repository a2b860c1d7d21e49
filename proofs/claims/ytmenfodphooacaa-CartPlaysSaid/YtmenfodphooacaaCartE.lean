/- The document's example of a cart: it answers true. -/
import Derived.Test.YtmenfodphooacaaCartD
namespace Go.Proofs.Ytmenfodphooacaa
open Go.RowKit Go.Maps Go.Proofs.YtmenfodphooacaaW.PrintWords
set_option linter.unusedVariables false

theorem IsCart.alloc {w : World} {base c n : Nat} {f : Int → Int → Option Int} {l : List (Int × Int)} {S : Nat → Prop} (h : IsCart w base c f l n S) (o : Obj) : IsCart (w.alloc o) base c f l n S :=
  h.kept (S' := fun _ => False) (Fr.of_below (below_alloc (Below.refl _ _) _) _) (fun _ _ h => h)
theorem IsCart.below {w w' : World} {base c n : Nat} {f : Int → Int → Option Int} {l : List (Int × Int)} {S : Nat → Prop} (h : IsCart w base c f l n S) (hb : Below w.heap.size w w') : IsCart w' base c f l n S :=
  h.kept (S' := fun _ => False) (Fr.of_below hb _) (fun _ _ h => h)
theorem hear_as {base c n : Nat} {f : Int → Int → Option Int} {l : List (Int × Int)} {S : Nat → Prop} (s y t a v : Int) (w : World) (hs : (Lit.int .i64 s).wf = true) (hy : (Lit.int .i64 y).wf = true) (h : IsCart w base c f l n S) (hb : base ≤ w.heap.size) (hn : n < 900) (u : Int) (f' : Int → Int → Option Int) (l' : List (Int × Int)) (e1 : hearV f s y v = u) (e2 : hearF f s y v = f') (e3 : hearL f l s y v = l') :
    Calls Try.prog 8 #[.pointer (some ⟨c, 0, none⟩), nt 5 s y t a 0, .int .u8 v] w fun e w' => e = .returned (.tuple #[nt 5 s y t a u, .bool true]) ∧ ∃ S', IsCart w' base c f' l' (n + 1) S' ∧ Fr w w' S ∧ (∀ g, S' g → S g ∨ w.heap.size ≤ g) := by
  subst e1 e2 e3
  exact hear_cart s y t a v w hs hy h hb hn

set_option maxHeartbeats 4000000 in
theorem awake_any (w : World) : Calls Try.prog 6 #[] w fun e w' => e = .returned (.bool true) ∧ Below w.heap.size w w' := by
  go_enter Try.func6, Try.ntmps6
  go_wp2_with fail
  go_at_call 7
  refine (new_cart (base := w.heap.size) _ (Nat.le_refl _)).mono ?_
  rintro e w1 ⟨c, S, rfl, HC, hB, hS⟩
  go_wp2_with fail
  go_at_call 8
  have q1 := blk_new w1 (.cells #[.int .u8 5, .int .i64 1, .int .i64 2, .int .i64 0, .int .i64 0, .int .u8 0] 30)
  have C1 := HC.alloc (.cells #[.int .u8 5, .int .i64 1, .int .i64 2, .int .i64 0, .int .i64 0, .int .u8 0] 30)
  have B1 := below_alloc hB (.cells #[.int .u8 5, .int .i64 1, .int .i64 2, .int .i64 0, .int .i64 0, .int .u8 0] 30)
  have nS : ¬ S w1.heap.size := fun h => by have := HC.hi _ h; omega
  obtain ⟨g1, hg1⟩ : ∃ g, g = w1.heap.size := ⟨_, rfl⟩
  rw [← hg1] at q1 nS ⊢
  obtain ⟨W1, hW1⟩ : ∃ W, W = w1.alloc (.cells #[.int .u8 5, .int .i64 1, .int .i64 2, .int .i64 0, .int .i64 0, .int .u8 0] 30) := ⟨_, rfl⟩
  rw [← hW1] at q1 C1 B1 ⊢
  clear hW1 HC hB hg1
  clear w1
  refine (hear_as 1 2 0 0 1 W1 (by decide) (by decide) C1 B1.size (by omega) 1 _ [(1, 2)] rfl rfl rfl).mono ?_
  rintro e w2 ⟨rfl, S2, C2, F2, hS2⟩
  have q2 := F2.at q1 nS
  have nS2 : ¬ S2 g1 := fun h => (hS2 g1 h).elim nS (fun h => by have := blk_lt q1; omega)
  have B2 : Below w.heap.size w w2 := B1.trans (F2.below B1.size (fun i hi => hS i hi))
  have hS2' : ∀ g, S2 g → w.heap.size ≤ g := fun g h => (hS2 g h).elim (hS g) (fun h => Nat.le_trans B1.size h)
  obtain ⟨hn0, hn1, hn2, hn3, hn4, hn5, hnf⟩ := cells6 q2
  have hlt1 := blk_lt q2
  go_wp2_with fail
  go_at_call 8
  have q3 := blk_alloc q2 (.cells #[.int .u8 5, .int .i64 1, .int .i64 2, .int .i64 0, .int .i64 0, .int .u8 1] 30)
  have q4 := blk_new w2 (.cells #[.int .u8 5, .int .i64 1, .int .i64 2, .int .i64 0, .int .i64 0, .int .u8 1] 30)
  have C3 := C2.alloc (.cells #[.int .u8 5, .int .i64 1, .int .i64 2, .int .i64 0, .int .i64 0, .int .u8 1] 30)
  have B3 := below_alloc B2 (.cells #[.int .u8 5, .int .i64 1, .int .i64 2, .int .i64 0, .int .i64 0, .int .u8 1] 30)
  have nS3 : ¬ S2 w2.heap.size := fun h => by have := C2.hi _ h; omega
  obtain ⟨g3, hg3⟩ : ∃ g, g = w2.heap.size := ⟨_, rfl⟩
  rw [← hg3] at q4 nS3 ⊢
  obtain ⟨W3, hW3⟩ : ∃ W, W = w2.alloc (.cells #[.int .u8 5, .int .i64 1, .int .i64 2, .int .i64 0, .int .i64 0, .int .u8 1] 30) := ⟨_, rfl⟩
  rw [← hW3] at q3 q4 C3 B3 ⊢
  clear hW3 C2 B2 hg3 q1 q2 hn0 hn1 hn2 hn3 hn4 hn5 hnf hlt1 F2 hS2 B1 C1 nS
  clear W1 w2
  refine (hear_as 1 2 0 0 3 W3 (by decide) (by decide) C3 B3.size (by omega) 1 (upd (fun _ _ => none) 1 2 1) [(1, 2)] rfl rfl rfl).mono ?_
  rintro e w4 ⟨rfl, S4, C4, F4, hS4⟩
  have B4 : Below w.heap.size w w4 := B3.trans (F4.below B3.size (fun i hi => hS2' i hi))
  have r4 := F4.at q4 nS3
  obtain ⟨hn0, hn1, hn2, hn3, hn4, hn5, hnf⟩ := cells6 r4
  have hlt3 := blk_lt r4
  clear q3 q4
  go_wp2_with fail
  go_at_call 10
  refine (sent_cart 1 2 _ (C4.alloc _) (by omega)).mono ?_
  rintro e w5 ⟨rfl, B5⟩
  go_wp2_with fail
  go_ret
  exact ⟨by rfl, (below_alloc B4 _).trans (B5.mono (by have := B4.size; simp; omega))⟩
end Go.Proofs.Ytmenfodphooacaa
