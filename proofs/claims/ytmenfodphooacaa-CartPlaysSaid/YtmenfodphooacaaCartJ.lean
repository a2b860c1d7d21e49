/- A cart, and blocks beside it: what turns one of them. -/
import Derived.Test.YtmenfodphooacaaCartH
namespace Go.Proofs.Ytmenfodphooacaa
open Go.RowKit Go.Maps Go.Proofs.YtmenfodphooacaaW.PrintWords
set_option linter.unusedVariables false

variable {w0 w w' : World} {base c n : Nat} {f : Said} {l : List (Int × Int)} {G G' : List (Nat × Obj)}
theorem Heard.kept (h : Heard w0 w base c f l n G) {S' : Nat → Prop} (k : Fr w w' S') (hs : ∀ i, S' i → (∃ o, (i, o) ∈ G) ∨ w.heap.size ≤ i) (hlo : ∀ i, S' i → w0.heap.size ≤ i)
    (hG : ∀ p ∈ G', w'.heap[p.1]? = some p.2 ∧ ((∃ o, (p.1, o) ∈ G) ∨ w.heap.size ≤ p.1)) : Heard w0 w' base c f l n G' := by
  obtain ⟨S, h1, h2, h3⟩ := h.ex
  refine ⟨⟨S, h1.kept k (fun i hi hk => ?_), fun p hp hS => ?_, h3⟩, fun p hp => (hG p hp).1, h.below.trans (k.below h.below.size hlo), Nat.le_trans h.hb k.size⟩
  · rcases hs i hk with ⟨o, ho⟩ | ho
    · exact h2 _ ho hi
    · have := h1.hi i hi; omega
  · rcases (hG p hp).2 with ⟨o, ho⟩ | ho
    · exact h2 _ ho hS
    · have := h1.hi _ hS; omega
theorem Heard.sub (h : Heard w0 w base c f l n G) (hs : ∀ p ∈ G', p ∈ G) : Heard w0 w base c f l n G' :=
  h.kept (S' := fun _ => False) (Fr.refl _ _) (fun _ h => h.elim) (fun _ h => h.elim) (fun p hp => ⟨h.blk p (hs p hp), .inl ⟨_, hs p hp⟩⟩)
theorem Heard.alloc (h : Heard w0 w base c f l n G) (o : Obj) : Heard w0 (w.alloc o) base c f l n ((w.heap.size, o) :: G) :=
  h.kept (S' := fun _ => False) (Fr.of_below (below_alloc (Below.refl _ _) _) _) (fun _ h => h.elim) (fun _ h => h.elim) (fun p hp => by
    rcases List.mem_cons.1 hp with rfl | hp
    · exact ⟨blk_new _ _, .inr (Nat.le_refl _)⟩
    · exact ⟨blk_alloc (h.blk p hp) _, .inl ⟨_, hp⟩⟩)
theorem Heard.same (h : Heard w0 w base c f l n G) (e : w'.heap = w.heap) (hb : Below w.heap.size w w') : Heard w0 w' base c f l n G :=
  h.kept (S' := fun _ => False) (Fr.of_below hb _) (fun _ h => h.elim) (fun _ h => h.elim) (fun p hp => ⟨by rw [e]; exact h.blk p hp, .inl ⟨_, hp⟩⟩)
theorem Heard.belowed (h : Heard w0 w base c f l n G) (hb : Below w.heap.size w w') : Heard w0 w' base c f l n G :=
  h.kept (S' := fun _ => False) (Fr.of_below hb _) (fun _ h => h.elim) (fun _ h => h.elim) (fun p hp => ⟨blk_below (h.blk p hp) hb, .inl ⟨_, hp⟩⟩)
theorem Heard.drew (h : Heard w0 w base c f l n G) : Heard w0 w.drew base c f l n G := h.same rfl ⟨rfl, rfl, rfl, Nat.le_refl _, fun _ _ => rfl⟩
theorem Heard.drewN (h : Heard w0 w base c f l n G) (m : Nat) : Heard w0 (w.drewN m) base c f l n G := h.same rfl ⟨rfl, rfl, rfl, Nat.le_refl _, fun _ _ => rfl⟩
theorem Heard.put {g : Nat} {A : Array Value} {t : TypeId} (h : Heard w0 w base c f l n G) (hg : (g, .cells A t (0, 0)) ∈ G) (hlo : w0.heap.size ≤ g) (j : Nat) (u : Value) (hu : u.oneCell' = true)
    (hG : ∀ p ∈ G', p = (g, .cells (A.setIfInBounds j u) t (0, 0)) ∨ (p ∈ G ∧ p.1 ≠ g)) : Heard w0 (w.setCell ⟨g, j, none⟩ u) base c f l n G' := by
  have hb := h.blk _ hg
  refine h.kept (S' := fun i => i = g) ((Fr.refl w (fun i => i = g)).set (p := ⟨g, j, none⟩) (.inl rfl) u) (fun i hi => .inl ⟨.cells A t (0, 0), (show i = g from hi).symm ▸ hg⟩) (fun i hi => (show i = g from hi).symm ▸ hlo) (fun p hp => ?_)
  rcases hG p hp with rfl | ⟨h1, h2⟩
  · exact ⟨blk_put hb j u (by cases u <;> first | rfl | simp [Value.oneCell'] at hu), .inl ⟨_, hg⟩⟩
  · exact ⟨(Below.heap_setCell w _ u p.1 h2).trans (h.blk p h1), .inl ⟨_, h1⟩⟩
/-- Blocks of unlike types are two. -/
theorem Heard.apart (h : Heard w0 w base c f l n G) {p q : Nat × Obj} (hp : p ∈ G) (hq : q ∈ G) (hne : p.2 ≠ q.2) : p.1 ≠ q.1 := by
  intro e
  have h1 := h.blk p hp
  rw [e, h.blk q hq] at h1
  exact hne (Option.some.inj h1).symm

/-- The trips in a row whose block is among those of G. -/
structure RowG (G : List (Nat × Obj)) (b : Nat) (v : Value) (l : List (Int × Int)) : Prop where
  own : ∀ w : World, (∀ p ∈ G, w.heap[p.1]? = some p.2) → w.ownsRow b 32 2 v l.length (cellsOf l)
  blk : ∀ k, some k = v.ownBlock → ∃ cur, (k, .cells cur 32 (0, 0)) ∈ G
theorem RowG.nil (G : List (Nat × Obj)) (b : Nat) : RowG G b (.slice none 0 0) [] := ⟨fun w _ => ⟨rfl, .inl ⟨rfl, rfl⟩⟩, fun k hk => by simp [Value.ownBlock] at hk⟩
theorem RowG.mono {b : Nat} {v : Value} (h : RowG G b v l) (hs : ∀ p ∈ G, p ∈ G') : RowG G' b v l := ⟨fun w hw => h.own w (fun p hp => hw p (hs p hp)), fun k hk => (h.blk k hk).imp fun cur h => hs _ h⟩
theorem rowG_of {b : Nat} {v : Value} (h : w.ownsRow b 32 2 v l.length (cellsOf l)) : ∃ G9, RowG G9 b v l ∧ (∀ p ∈ G9, w.heap[p.1]? = some p.2) ∧ (∀ p ∈ G9, some p.1 = v.ownBlock) ∧ (∀ p ∈ G9, ∃ cur, p.2 = .cells cur 32 (0, 0)) := by
  have h' := h
  obtain ⟨h0, (⟨rfl, hx⟩ | ⟨g, cap, cur, rfl, h1, h2, h3⟩)⟩ := h'
  · exact ⟨[], ⟨fun w' _ => row_of h (fun g hg => by simp [Value.ownBlock] at hg), fun k hk => by simp [Value.ownBlock] at hk⟩, by simp, by simp, by simp⟩
  · refine ⟨[(g, .cells cur 32 (0, 0))], ⟨fun w' hw => row_of h (fun k hk => ?_), fun k hk => ⟨cur, ?_⟩⟩, ?_, ?_, ?_⟩
    · simp [Value.ownBlock] at hk; subst hk
      rw [h2]; exact hw (k, .cells cur 32 (0, 0)) (by simp)
    · simp [Value.ownBlock] at hk; subst hk; simp
    · intro p hp; simp at hp; subst hp; exact h2
    · intro p hp; simp at hp; subst hp; simp [Value.ownBlock]
    · intro p hp; simp at hp; subst hp; exact ⟨_, rfl⟩
/-- Behind an append: the row is longer, all else is as it was. -/
theorem Heard.grown {b : Nat} {v v' : Value} {l' l2 : List (Int × Int)} (h : Heard w0 w base c f l n G) (hv : RowG G b v l') (hlo : w0.heap.size ≤ b) (k : Fr w w' (fun i => some i = v.ownBlock))
    (hown : w'.ownsRow b 32 2 v' l2.length (cellsOf l2)) (hat : ∀ i, some i = v'.ownBlock → some i = v.ownBlock ∨ w.heap.size ≤ i) (hG : ∀ p ∈ G', p ∈ G ∧ ∀ cur, p.2 ≠ .cells cur 32 (0, 0)) :
    ∃ G9, RowG G9 b v' l2 ∧ Heard w0 w' base c f l n (G' ++ G9) ∧ (∀ p ∈ G9, ∃ cur, p.2 = .cells cur 32 (0, 0)) := by
  obtain ⟨G9, g1, g2, g3, g4⟩ := rowG_of hown
  have hrow := hv.own w h.blk
  refine ⟨G9, g1, h.kept k (fun i hi => .inl ((hv.blk i hi).elim fun cur h => ⟨_, h⟩)) (fun i hi => ?_) (fun p hp => ?_), g4⟩
  · obtain ⟨_, (⟨rfl, _⟩ | ⟨g, cap, cur, rfl, h1, h2, h3⟩)⟩ := hrow
    · simp [Value.ownBlock] at hi
    · simp [Value.ownBlock] at hi; subst hi; omega
  · rcases List.mem_append.1 hp with hp | hp
    · obtain ⟨h1, h2⟩ := hG p hp
      refine ⟨?_, .inl ⟨_, h1⟩⟩
      rw [k.block p.1 (blk_lt (h.blk p h1)) (fun e => ?_)]
      · exact h.blk p h1
      · obtain ⟨cur, hc⟩ := hv.blk _ e
        exact h.apart h1 hc (h2 cur) rfl
    · refine ⟨g2 p hp, ?_⟩
      rcases hat _ (g3 p hp) with e | e
      · exact .inl ((hv.blk _ e).elim fun cur h => ⟨_, h⟩)
      · exact .inr e
theorem Heard.six {g : Nat} {k s y t a d : Int} (h : Heard w0 w base c f l n G) (hg : (g, bx6 k s y t a d) ∈ G) : w.cell? ⟨g, 0, none⟩ = some (.int .u8 k) ∧ w.cell? ⟨g, 1, none⟩ = some (.int .i64 s) ∧ w.cell? ⟨g, 2, none⟩ = some (.int .i64 y) ∧ w.cell? ⟨g, 3, none⟩ = some (.int .i64 t) ∧ w.cell? ⟨g, 4, none⟩ = some (.int .i64 a) ∧ w.cell? ⟨g, 5, none⟩ = some (.int .u8 d) ∧ ∀ j, w.frozen? ⟨g, j, none⟩ = false :=
  cells6 (h.blk _ hg)
theorem Heard.nine {g : Nat} {A : Array Value} {f' : Said} {s y : Nat} (h : Heard w0 w base c f l n G) (hg : (g, .cells A 27 (0, 0)) ∈ G) (hA : SaidArr A f') (hs : s < 3) (hy : y < 3) {o : Option Int} (e : f' s y = o) : w.cell? ⟨g, s * 3 + y, none⟩ = some (.int .u8 (o.getD 0)) ∧ w.frozen? ⟨g, s * 3 + y, none⟩ = false := by
  have q := h.blk _ hg
  rw [← e]
  exact ⟨(blk_cell q (s * 3 + y)).trans (hA.at_ s y hs hy), blk_frozen q _⟩
/-- The array's cell is another one. -/
theorem Heard.putA {g gn : Nat} {A : Array Value} {o : Obj} (h : Heard w0 w base c f l n ((gn, o) :: (g, .cells A 27 (0, 0)) :: G)) (hlo : w0.heap.size ≤ g) (j : Nat) (u : Int) (ho : o ≠ .cells A 27 (0, 0)) (hT : ∀ p ∈ G, ∃ cur, p.2 = .cells cur 32 (0, 0)) :
    Heard w0 (w.setCell ⟨g, j, none⟩ (.int .u8 u)) base c f l n ((gn, o) :: (g, .cells (A.setIfInBounds j (.int .u8 u)) 27 (0, 0)) :: G) := by
  have hne : ∀ p ∈ G, p.1 ≠ g := fun p hp => h.apart (q := (g, .cells A 27 (0, 0))) (by simp [hp]) (by simp) (by obtain ⟨cur, e⟩ := hT p hp; rw [e]; simp)
  have hng : gn ≠ g := h.apart (p := (gn, o)) (q := (g, .cells A 27 (0, 0))) (by simp) (by simp) ho
  refine h.put (g := g) (A := A) (t := 27) (by simp) hlo _ _ rfl (fun p hp => ?_)
  simp only [List.mem_cons] at hp ⊢
  rcases hp with rfl | rfl | hp
  · exact .inr ⟨.inl rfl, hng⟩
  · exact .inl rfl
  · exact .inr ⟨.inr (.inr hp), hne p hp⟩
theorem Heard.of_drewN {m : Nat} (h : Heard w0 w base c f l n G) (e : w' = w.drewN m) : Heard w0 w' base c f l n G := by rw [e]; exact h.drewN m
theorem Heard.still {V : World} (h : Heard w0 w base c f l n G) (e : V.heap = w.heap) (hb : Below V.heap.size w V) : Heard w0 V base c f l n G :=
  h.same e ⟨hb.os, hb.tape, hb.output, by rw [e]; exact Nat.le_refl _, fun i _ => by rw [e]⟩
end Go.Proofs.Ytmenfodphooacaa
