/- The post's functions, as they turn a post. -/
import Derived.Test.YtcobkideokljfaaProg
import Derived.Test.YtcobkideokljfaaWWords
import Derived.Test.YtcobkideokljfaaWKept
import Derived.WalkKit
import Derived.OwnWalk
import Derived.RegionTactic
import Derived.Deep.QuietTactic
import Derived.BigQuiet
import Derived.Deep.RegionLaw
import Derived.Deep.RegionLawGrows
import Derived.Deep.RegionHeld3
import Derived.Deep.DeepCutAuto
import Derived.Deep.Upon
import Derived.StillTailTactics
import Derived.Laws.Rows
import Derived.LoopTactic
namespace Go.Proofs.Ytcobkideokljfaa
open Go.RowKit Go.Proofs.YtcobkideokljfaaW.PrintWords
set_option linter.unusedVariables false

theorem still_tail_at {P : Program} {id : Nat} {Q : Exit → Act → World → Prop} {a : Act} {w : World} {l : List Oper} (n : Nat) (hm : P.follows .mixedOrders = true) (hB : Region.lexTailB .any l.toArray n = true)
    (h : ∀ V : World, V.heap = w.heap → Below V.heap.size w V → wpStill P l.toArray V (fun a' => wpList P l.toArray Q (l.drop n) a' V) (l.take n) a) : (Code.region id l.toArray true).wp P Q a w :=
  wp_region_still_tail n hm hB (h _ rfl ⟨rfl, rfl, rfl, Nat.le_refl _, fun _ _ => rfl⟩)
theorem pw_below_drewN2 {B : Nat} {w W : World} (h : Below B w W) (m : Nat) : Below B w (W.drewN m) := ⟨h.os, h.tape, h.output, h.size, h.block⟩
/-- What was there is as it was, but for the blocks of S. -/
structure Fr (w w' : World) (S : Nat → Prop) : Prop where
  os : w'.os = w.os
  tape : w'.tape = w.tape
  output : w'.output = w.output
  size : w.heap.size ≤ w'.heap.size
  block : ∀ i, i < w.heap.size → ¬ S i → w'.heap[i]? = w.heap[i]?
theorem Fr.refl (w : World) (S : Nat → Prop) : Fr w w S := ⟨rfl, rfl, rfl, Nat.le_refl _, fun _ _ _ => rfl⟩
theorem Fr.trans {a b c : World} {S : Nat → Prop} (h : Fr a b S) (k : Fr b c S) : Fr a c S := ⟨k.os.trans h.os, k.tape.trans h.tape, k.output.trans h.output, Nat.le_trans h.size k.size, fun i hi hn => (k.block i (Nat.lt_of_lt_of_le hi h.size) hn).trans (h.block i hi hn)⟩
theorem Fr.trans' {a b c : World} {S S' : Nat → Prop} (h : Fr a b S) (k : Fr b c S') (hs : ∀ i, i < a.heap.size → S' i → S i) : Fr a c S := ⟨k.os.trans h.os, k.tape.trans h.tape, k.output.trans h.output, Nat.le_trans h.size k.size, fun i hi hn => (k.block i (Nat.lt_of_lt_of_le hi h.size) (fun hk => hn (hs i hi hk))).trans (h.block i hi hn)⟩
theorem Fr.of_below {w w' : World} (h : Below w.heap.size w w') (S : Nat → Prop) : Fr w w' S := ⟨h.os, h.tape, h.output, h.size, fun i hi _ => h.block i hi⟩
theorem Fr.same {w w' V : World} (e : w'.heap = w.heap) (h : Below V.heap.size w w') (S : Nat → Prop) : Fr w w' S := ⟨h.os, h.tape, h.output, h.size, fun i _ _ => by rw [e]⟩
theorem Fr.set {a w : World} {S : Nat → Prop} (h : Fr a w S) {p : Addr} (hp : S p.block ∨ a.heap.size ≤ p.block) (u : Value) : Fr a (w.setCell p u) S :=
  h.trans' (S' := fun i => i = p.block) ⟨rfl, rfl, rfl, by simp [World.setCell], fun i _ hn => Below.heap_setCell w p u i hn⟩ (fun i hi e => hp.elim (fun h => e ▸ h) (fun h => absurd hi (by omega)))
theorem Fr.alloc {a w : World} {S : Nat → Prop} (h : Fr a w S) (o : Obj) : Fr a (w.alloc o) S := h.trans (Fr.of_below (below_alloc (Below.refl _ _) _) S)
theorem Fr.mono {a w : World} {S S' : Nat → Prop} (h : Fr a w S) (hs : ∀ i, S i → S' i) : Fr a w S' := ⟨h.os, h.tape, h.output, h.size, fun i hi hn => h.block i hi (fun k => hn (hs i k))⟩
theorem Fr.below {a w : World} {S : Nat → Prop} (h : Fr a w S) {B : Nat} (hB : B ≤ a.heap.size) (hs : ∀ i, S i → B ≤ i) : Below B a w := ⟨h.os, h.tape, h.output, h.size, fun i hi => h.block i (by omega) (fun k => by have := hs i k; omega)⟩
theorem Fr.at {a w : World} {S : Nat → Prop} (h : Fr a w S) {g : Nat} {o : Obj} (hg : a.heap[g]? = some o) (hn : ¬ S g) : w.heap[g]? = some o := (h.block g (blk_lt hg) hn).trans hg
theorem cells2 {w : World} {g : Nat} {t : TypeId} {a b : Value} (h : w.heap[g]? = some (.cells #[a, b] t (0, 0))) : w.cell? ⟨g, 0, none⟩ = some a ∧ w.cell? ⟨g, 1, none⟩ = some b ∧ ∀ j, w.frozen? ⟨g, j, none⟩ = false := ⟨(blk_cell h 0).trans rfl, (blk_cell h 1).trans rfl, fun j => blk_frozen h j⟩
theorem Fr.drew {a w : World} {S : Nat → Prop} (h : Fr a w S) : Fr a w.drew S := ⟨h.os, h.tape, h.output, h.size, h.block⟩

/-- A row of n elements in a block from base on; the block may be longer than its capacity. -/
def RowP (w : World) (base : Nat) (e : TypeId) (size : Nat) (v : Value) (n : Nat) (xs : List Value) : Prop :=
  xs.length = n * size ∧ ((v = .slice none 0 0 ∧ n = 0) ∨ ∃ g cap cur, v = .slice (some ⟨g, 0, none⟩) n cap ∧ base ≤ g ∧ w.heap[g]? = some (.cells cur e (0, 0)) ∧ n ≤ cap ∧ cap ≤ maxLen ∧ cap * size ≤ cur.size ∧ cur.toList.take (n * size) = xs)
theorem RowP.of_own {w : World} {base : Nat} {e : TypeId} {size : Nat} {v : Value} {n : Nat} {xs : List Value} (h : w.ownsRow base e size v n xs) : RowP w base e size v n xs := by
  obtain ⟨h0, (h1 | ⟨g, cap, cur, h1, h2, h3, h4, h5, h6, h7⟩)⟩ := h
  · exact ⟨h0, .inl h1⟩
  · exact ⟨h0, .inr ⟨g, cap, cur, h1, h2, h3, h4, h5, by omega, h7⟩⟩
theorem RowP.mono {w : World} {base base' : Nat} {e : TypeId} {size : Nat} {v : Value} {n : Nat} {xs : List Value} (h : RowP w base e size v n xs) (hb : base' ≤ base) : RowP w base' e size v n xs := by
  obtain ⟨h0, (h1 | ⟨g, cap, cur, h1, h2, h3⟩)⟩ := h
  · exact ⟨h0, .inl h1⟩
  · exact ⟨h0, .inr ⟨g, cap, cur, h1, by omega, h3⟩⟩
theorem RowP.of {w w' : World} {base : Nat} {e : TypeId} {size : Nat} {v : Value} {n : Nat} {xs : List Value} (h : RowP w base e size v n xs) (hk : ∀ g, some g = v.ownBlock → w'.heap[g]? = w.heap[g]?) : RowP w' base e size v n xs := by
  obtain ⟨h0, (h1 | ⟨g, cap, cur, rfl, h2, h3, h4⟩)⟩ := h
  · exact ⟨h0, .inl h1⟩
  · exact ⟨h0, .inr ⟨g, cap, cur, rfl, h2, (hk g (by simp [Value.ownBlock])).trans h3, h4⟩⟩
theorem RowP.lt {w : World} {base : Nat} {e : TypeId} {size : Nat} {v : Value} {n : Nat} {xs : List Value} (h : RowP w base e size v n xs) : ∀ k, some k = v.ownBlock → k < w.heap.size ∧ base ≤ k := by
  rintro k hk
  obtain ⟨_, (⟨rfl, _⟩ | ⟨g, cap, cur, rfl, h1, hg, _⟩)⟩ := h
  · simp [Value.ownBlock] at hk
  · simp [Value.ownBlock] at hk; subst hk; exact ⟨blk_lt hg, h1⟩
theorem RowP.ne {w : World} {base : Nat} {e : TypeId} {size : Nat} {v : Value} {n : Nat} {xs : List Value} (h : RowP w base e size v n xs) {c : Nat} {cs : Array Value} {t : TypeId} (hc : w.heap[c]? = some (.cells cs t (0, 0))) (ht : t ≠ e) : some c ≠ v.ownBlock := by
  intro hk
  obtain ⟨_, (⟨rfl, _⟩ | ⟨g, cap, cur, rfl, _, hg, _⟩)⟩ := h
  · simp [Value.ownBlock] at hk
  · simp [Value.ownBlock] at hk; subst hk; rw [hc] at hg; injection hg with hg; injection hg with _ h2; exact ht h2
theorem RowP.form {w : World} {base : Nat} {e : TypeId} {size : Nat} {v : Value} {n : Nat} {xs : List Value} (h : RowP w base e size v n xs) : ∃ A c, v = .slice A n c := by
  obtain ⟨_, (⟨rfl, rfl⟩ | ⟨g, cap, cur, rfl, _⟩)⟩ := h
  · exact ⟨_, _, rfl⟩
  · exact ⟨_, _, rfl⟩
theorem RowP.cells {w : World} {base : Nat} {e : TypeId} {size : Nat} {v : Value} {n : Nat} {xs : List Value} (h : RowP w base e size v n xs) (hn : 0 < n) : ∃ g cap, v = .slice (some ⟨g, 0, none⟩) n cap ∧ base ≤ g ∧ g < w.heap.size ∧ ∀ j u, xs[j]? = some u → w.cell? ⟨g, j, none⟩ = some u := by
  obtain ⟨h0, (⟨rfl, rfl⟩ | ⟨g, cap, cur, rfl, h1, h2, h3, h4, h5, h6⟩)⟩ := h
  · omega
  · refine ⟨g, cap, rfl, h1, blk_lt h2, fun j u hu => ?_⟩
    rw [blk_cell h2]
    rw [← h6] at hu
    have := List.getElem?_take_of_lt (l := cur.toList) (i := j) (j := n * size) (by
      by_cases hj : j < n * size
      · exact hj
      · rw [List.getElem?_eq_none (by simp; omega)] at hu; cases hu)
    rw [this] at hu
    simpa using hu
theorem setCells_put {g : Nat} {t : TypeId} : ∀ (us : List Value) (j : Nat) (W' : World) (ds : Array Value), W'.heap[g]? = some (.cells ds t (0, 0)) → j + us.length ≤ ds.size → ∃ es : Array Value, (W'.setCells g j us).heap[g]? = some (.cells es t (0, 0)) ∧ es.toList = ds.toList.take j ++ us ++ ds.toList.drop (j + us.length) := by
  intro us
  induction us with
  | nil => intro j W' ds hW hl; exact ⟨ds, hW, by simp⟩
  | cons u us ih =>
    intro j W' ds hW hl
    simp only [List.length_cons] at hl
    obtain ⟨es, h1, h2⟩ := ih (j + 1) (W'.setCell ⟨g, j, none⟩ u) (ds.setIfInBounds j u) (blk_put hW j u rfl) (by simp; omega)
    refine ⟨es, h1, ?_⟩
    rw [h2]
    have e1 : (ds.setIfInBounds j u).toList.take (j + 1) = ds.toList.take j ++ [u] := by
      rw [Array.toList_setIfInBounds, List.take_add_one, List.take_set_of_le (Nat.le_refl j), List.getElem?_set_self (by simp; omega)]
      rfl
    have e2 : (ds.setIfInBounds j u).toList.drop (j + 1 + us.length) = ds.toList.drop (j + (us.length + 1)) := by
      rw [Array.toList_setIfInBounds, List.drop_set_of_lt (by omega)]
      congr 1; omega
    rw [e1, e2]; simp
theorem fr_setCells {g : Nat} : ∀ (us : List Value) (j : Nat) (W : World), Fr W (W.setCells g j us) (fun i => i = g) := by
  intro us
  induction us with
  | nil => intro j W; exact Fr.refl _ _
  | cons u us ih => intro j W; exact ((Fr.refl W (fun i => i = g)).set (p := ⟨g, j, none⟩) (.inl rfl) u).trans (ih (j + 1) _)
/-- append onto such a row. -/
theorem run_append_p {P : Program} (w : World) (base : Nat) (t ty e : TypeId) (i : TypeInfo) (z : Value) (size bytes : Nat) (ht : P.underlying t = some (.slice e)) (hi : P.info? e = some i) (hz : i.zero = some z)
    (hsize : i.size = size) (hby : i.bytes = bytes) (hzs : z.cells.size = size) (hsz : 0 < size) (v : Value) (n : Nat) (xs : List Value) (hown : RowP w base e size v n xs)
    (ad : Addr) (m c : Nat) (news : List Value) (hl : news.length = m * size) (hnews : ∀ j u, news[j]? = some u → w.cell? (ad.add j) = some u) (h1 : ∀ u ∈ news, u.oneCell' = true)
    (h63 : n + m ≤ maxLen) (hbytes : (n + m) * bytes ≤ 140737488355328) (hbase : base ≤ w.heap.size) :
    ∃ v' w', (Builtin.append_ #[t, t] ty #[v, .slice (some ad) m c]).run P w = .ok v' w' ∧ RowP w' base e size v' (n + m) (xs ++ news) ∧ Fr w w' (fun i => some i = v.ownBlock) ∧ (∀ k, some k = v'.ownBlock → some k = v.ownBlock ∨ w.heap.size ≤ k) := by
  obtain ⟨h0, (⟨rfl, rfl⟩ | ⟨g, cap, cur, rfl, h2, h3, h4, h5, h6, h7⟩)⟩ := hown
  · have hxs : xs = [] := List.eq_nil_of_length_eq_zero (by simpa using h0)
    subst hxs
    obtain ⟨v', w', hr, q1, q2, _, q4⟩ := run_append_own_at (P := P) w base t ty e i z size bytes ht hi hz hsize hby hzs hsz (.slice none 0 0) 0 [] ⟨by simp, .inl ⟨rfl, rfl⟩⟩ ad m c news hl hnews h1 h63 hbytes hbase
    refine ⟨v', w', hr, RowP.of_own q1, ⟨q2.os, q2.tape, q2.output, q2.size, fun k hk _ => q2.block k hk (by simp [Value.ownBlock])⟩, fun k hk => ?_⟩
    rcases q4 with q4 | q4
    · rw [q4] at hk; exact .inl hk
    · rw [q4] at hk; injection hk with hk; exact .inr (by omega)
  · by_cases hroom : n + m ≤ cap
    · subst hsize
      have hle : n * i.size + m * i.size ≤ cap * i.size := by rw [← Nat.add_mul]; exact Nat.mul_le_mul_right _ hroom
      have hr := run_append_room_cells (P := P) w t ty e i ht hi g 0 n cap ad m c news hl hnews h1 hroom
        (fun j hj => by rw [blk_cell h3, Array.getElem?_eq_getElem (by omega)]; rfl) (fun j hj => blk_frozen h3 _)
      obtain ⟨es, e1, e2⟩ := setCells_put news (0 + n * i.size) w cur h3 (by omega)
      have hes : es.size = cur.size := by
        rw [← Array.length_toList, e2]; simp; omega
      refine ⟨_, _, hr, ⟨by rw [List.length_append, h0, hl, Nat.add_mul], .inr ⟨g, cap, es, rfl, h2, e1, hroom, h5, by omega, ?_⟩⟩, (fr_setCells news _ w).mono (fun k hk => by simp [Value.ownBlock, hk]), fun k hk => .inl hk⟩
      rw [e2, Nat.zero_add, h7, Nat.add_mul, ← hl, ← h0, ← List.length_append, List.take_left]
    · obtain ⟨v', w', hr, q1, q2⟩ := run_append_arg_grows (P := P) w t ty e i z size bytes ht hi hz hsize hby hzs hsz ⟨g, 0, none⟩ n cap xs h0 (fun j u hu => by
          rw [add_plain, blk_cell h3]
          rw [← h7] at hu
          have hj : j < n * size := by
            by_cases hj : j < n * size
            · exact hj
            · rw [List.getElem?_eq_none (by simp; omega)] at hu; cases hu
          rw [List.getElem?_take_of_lt hj] at hu
          simpa using hu) ad m c news hl hnews (by omega) h63 hbytes
      refine ⟨v', w', hr, (RowP.of_own q1).mono hbase, ⟨q2.os, q2.tape, q2.output, q2.size, fun k hk _ => q2.block k hk (by simp)⟩, fun k hk => .inr ?_⟩
      exact ((RowP.of_own q1).lt k hk).2
end Go.Proofs.Ytcobkideokljfaa
