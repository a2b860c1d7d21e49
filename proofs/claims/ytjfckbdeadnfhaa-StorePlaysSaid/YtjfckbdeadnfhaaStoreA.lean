/- The store's functions, as they turn a store. -/
import Derived.Test.YtjfckbdeadnfhaaProg
import Derived.Test.YtjfckbdeadnfhaaWWords
import Derived.Test.YtjfckbdeadnfhaaWKept
import Derived.Maps.OwnSet
import Derived.Maps.Own
import Derived.WalkKit
import Derived.DeepKeys4
import Derived.OwnWalk
import Derived.RegionTactic
import Derived.Deep.QuietTactic
import Derived.BigQuiet
import Derived.Deep.RegionLaw
import Derived.Deep.RegionLawGrows
import Derived.StillTailTactics
import Derived.WideKeyEntry
import Derived.Laws.Rows
namespace Go.Proofs.Ytjfckbdeadnfhaa
open Go.RowKit Go.Maps Go.Proofs.YtjfckbdeadnfhaaW.PrintWords
set_option linter.unusedVariables false

abbrev nt (k s y t a d : Int) : Value := .agg #[.int .u8 k, .int .i64 s, .int .i64 y, .int .i64 t, .int .i64 a, .int .u8 d]

theorem laidOut0 : laidOutB Try.prog = true := by kernel_rfl
theorem row49 : 49 < Try.prog.types.size := of_decide_eq_true (by kernel_rfl)
theorem lawK : Keyed Try.prog 49 := Keyed.of_law (deep_law_laid laidOut0 (m := 2) (by omega) row49 (by kernel_rfl) (by rw [Try.underlying49]))
theorem zero4 (w : World) : (zeroValue 4).run Try.prog w = .ok (.bool false) w := by kernel_rfl
theorem zero5 (w : World) : (zeroValue 5).run Try.prog w = .ok (.int .u8 0) w := by kernel_rfl

theorem still_tail_at {P : Program} {id : Nat} {Q : Exit → Act → World → Prop} {a : Act} {w : World} {l : List Oper} (n : Nat) (hm : P.follows .mixedOrders = true) (hB : Region.lexTailB .any l.toArray n = true)
    (h : ∀ V : World, V.heap = w.heap → Below V.heap.size w V → wpStill P l.toArray V (fun a' => wpList P l.toArray Q (l.drop n) a' V) (l.take n) a) : (Code.region id l.toArray true).wp P Q a w :=
  wp_region_still_tail n hm hB (h _ rfl ⟨rfl, rfl, rfl, Nat.le_refl _, fun _ _ => rfl⟩)
/-- What was there is as it was, but for the blocks of S. -/
structure Fr (w w' : World) (S : Nat → Prop) : Prop where
  os : w'.os = w.os
  tape : w'.tape = w.tape
  output : w'.output = w.output
  size : w.heap.size ≤ w'.heap.size
  block : ∀ i, i < w.heap.size → ¬ S i → w'.heap[i]? = w.heap[i]?
theorem Fr.refl (w : World) (S : Nat → Prop) : Fr w w S := ⟨rfl, rfl, rfl, Nat.le_refl _, fun _ _ _ => rfl⟩
theorem Fr.trans {a b c : World} {S : Nat → Prop} (h : Fr a b S) (k : Fr b c S) : Fr a c S := ⟨k.os.trans h.os, k.tape.trans h.tape, k.output.trans h.output, Nat.le_trans h.size k.size, fun i hi hn => (k.block i (Nat.lt_of_lt_of_le hi h.size) hn).trans (h.block i hi hn)⟩
theorem Fr.trans' {a b c : World} {S S' : Nat → Prop} (h : Fr a b S) (k : Fr b c S') (hs : ∀ i, i < a.heap.size → S' i → S i) : Fr a c S := ⟨k.os.trans h.os, k.tape.trans h.tape, k.output.trans h.output, Nat.le_trans h.size k.size, fun i hi hn => (k.block i (Nat.lt_of_lt_of_le hi h.size) (fun hk => hn (hs i hi hk))).trans (h.block i hi hn)⟩
theorem Fr.of_below {w w' : World} (h : Below w.heap.size w w') (S : Nat → Prop) : Fr w w' S := ⟨h.os, h.tape, h.output, h.size, fun i hi _ => h.block i hi⟩
theorem Fr.same {w w' V : World} (e : w'.heap = w.heap) (h : Below V.heap.size w w') (S : Nat → Prop) : Fr w w' S := ⟨h.os, h.tape, h.output, h.size, fun i _ _ => by rw [e]⟩
theorem Fr.set {a w : World} {S : Nat → Prop} (h : Fr a w S) {p : Addr} (hp : S p.block ∨ a.heap.size ≤ p.block) (u : Value) : Fr a (w.setCell p u) S :=
  h.trans' (S' := fun i => i = p.block) ⟨rfl, rfl, rfl, by simp [World.setCell], fun i _ hn => Below.heap_setCell w p u i hn⟩ (fun i hi e => hp.elim (fun h => e ▸ h) (fun h => absurd hi (by omega)))
theorem Fr.alloc {a w : World} {S : Nat → Prop} (h : Fr a w S) (o : Obj) : Fr a (w.alloc o) S := h.trans (Fr.of_below (below_alloc (Below.refl _ _) _) S)
theorem Fr.mono {a w : World} {S S' : Nat → Prop} (h : Fr a w S) (hs : ∀ i, S i → S' i) : Fr a w S' := ⟨h.os, h.tape, h.output, h.size, fun i hi hn => h.block i hi (fun k => hn (hs i k))⟩
theorem Fr.below {a w : World} {S : Nat → Prop} (h : Fr a w S) {B : Nat} (hB : B ≤ a.heap.size) (hs : ∀ i, S i → B ≤ i) : Below B a w := ⟨h.os, h.tape, h.output, h.size, fun i hi => h.block i (by omega) (fun k => by have := hs i k; omega)⟩
theorem Fr.at {a w : World} {S : Nat → Prop} (h : Fr a w S) {g : Nat} {o : Obj} (hg : a.heap[g]? = some o) (hn : ¬ S g) : w.heap[g]? = some o := (h.block g (blk_lt hg) hn).trans hg
theorem fr7 {a w : World} {S : Nat → Prop} (h : Fr a w S) {g g' : Nat} (hg : a.heap.size ≤ g) (hg' : a.heap.size ≤ g') (x0 x1 x2 x3 x4 x5 x6 : Value) : Fr a (((((((w.setCell ⟨g, 5, none⟩ x0).setCell ⟨g', 0, none⟩ x1).setCell ⟨g', 1, none⟩ x2).setCell ⟨g', 2, none⟩ x3).setCell ⟨g', 3, none⟩ x4).setCell ⟨g', 4, none⟩ x5).setCell ⟨g', 5, none⟩ x6) S :=
  ((((((h.set (p := ⟨g, 5, none⟩) (.inr hg) x0).set (p := ⟨g', 0, none⟩) (.inr hg') x1).set (p := ⟨g', 1, none⟩) (.inr hg') x2).set (p := ⟨g', 2, none⟩) (.inr hg') x3).set (p := ⟨g', 3, none⟩) (.inr hg') x4).set (p := ⟨g', 4, none⟩) (.inr hg') x5).set (p := ⟨g', 5, none⟩) (.inr hg') x6
theorem own7 {H : Type} {w : World} {P : Program} {k : TypeId} {R : Value → Option (DataW H × List MemPlace)} {b n g g' : Nat} {D : DataW H} (h : w.ownsMap P k R b n D) (hg : b ≠ g) (hg' : b ≠ g') (x0 x1 x2 x3 x4 x5 x6 : Value) : (((((((w.setCell ⟨g, 5, none⟩ x0).setCell ⟨g', 0, none⟩ x1).setCell ⟨g', 1, none⟩ x2).setCell ⟨g', 2, none⟩ x3).setCell ⟨g', 3, none⟩ x4).setCell ⟨g', 4, none⟩ x5).setCell ⟨g', 5, none⟩ x6).ownsMap P k R b n D :=
  ((((((h.setCell (a := ⟨g, 5, none⟩) hg x0).setCell (a := ⟨g', 0, none⟩) hg' x1).setCell (a := ⟨g', 1, none⟩) hg' x2).setCell (a := ⟨g', 2, none⟩) hg' x3).setCell (a := ⟨g', 3, none⟩) hg' x4).setCell (a := ⟨g', 4, none⟩) hg' x5).setCell (a := ⟨g', 5, none⟩) hg' x6
theorem ne_map {H : Type} {w : World} {P : Program} {k : TypeId} {R : Value → Option (DataW H × List MemPlace)} {b n g : Nat} {D : DataW H} {cs : Array Value} {t : TypeId} (h : w.ownsMap P k R b n D) (hg : w.heap[g]? = some (.cells cs t (0, 0))) : some g ≠ some b := by
  rintro e
  injection e with e
  subst e
  obtain ⟨es, cl, h1, _⟩ := h
  rw [hg] at h1
  cases h1
theorem pw_below_drewN2 {B : Nat} {w W : World} (h : Below B w W) (m : Nat) : Below B w (W.drewN m) := ⟨h.os, h.tape, h.output, h.size, h.block⟩
theorem cells2 {w : World} {g : Nat} {t : TypeId} {a b : Value} (h : w.heap[g]? = some (.cells #[a, b] t (0, 0))) : w.cell? ⟨g, 0, none⟩ = some a ∧ w.cell? ⟨g, 1, none⟩ = some b ∧ ∀ j, w.frozen? ⟨g, j, none⟩ = false := ⟨(blk_cell h 0).trans rfl, (blk_cell h 1).trans rfl, fun j => blk_frozen h j⟩
theorem cells6 {w : World} {g : Nat} {t : TypeId} {a b c d e f : Value} (h : w.heap[g]? = some (.cells #[a, b, c, d, e, f] t (0, 0))) : w.cell? ⟨g, 0, none⟩ = some a ∧ w.cell? ⟨g, 1, none⟩ = some b ∧ w.cell? ⟨g, 2, none⟩ = some c ∧ w.cell? ⟨g, 3, none⟩ = some d ∧ w.cell? ⟨g, 4, none⟩ = some e ∧ w.cell? ⟨g, 5, none⟩ = some f ∧ ∀ j, w.frozen? ⟨g, j, none⟩ = false :=
  ⟨(blk_cell h 0).trans rfl, (blk_cell h 1).trans rfl, (blk_cell h 2).trans rfl, (blk_cell h 3).trans rfl, (blk_cell h 4).trans rfl, (blk_cell h 5).trans rfl, fun j => blk_frozen h j⟩
theorem put6 {w : World} {g : Nat} {t : TypeId} {a b c d e f a' b' c' d' e' f' : Value} (h : w.heap[g]? = some (.cells #[a, b, c, d, e, f] t (0, 0))) : ((((((w.setCell ⟨g, 0, none⟩ a').setCell ⟨g, 1, none⟩ b').setCell ⟨g, 2, none⟩ c').setCell ⟨g, 3, none⟩ d').setCell ⟨g, 4, none⟩ e').setCell ⟨g, 5, none⟩ f').heap[g]? = some (.cells #[a', b', c', d', e', f'] t (0, 0)) :=
  blk_put (blk_put (blk_put (blk_put (blk_put (blk_put h 0 a' rfl) 1 b' rfl) 2 c' rfl) 3 d' rfl) 4 e' rfl) 5 f' rfl
theorem map_of {H : Type} {w w' : World} {P : Program} {k : TypeId} {R : Value → Option (DataW H × List MemPlace)} {b m : Nat} {D : DataW H} (h : w.ownsMap P k R b m D) (hk : w'.heap[b]? = w.heap[b]?) : w'.ownsMap P k R b m D := by
  obtain ⟨es, cl, h1, h2⟩ := h
  exact ⟨es, cl, hk.trans h1, h2⟩
theorem law49 : WideMaps.KeyLaw Try.prog 49 := deep_law_laid laidOut0 (m := 2) (by omega) row49 (by kernel_rfl) (by rw [Try.underlying49])
theorem plainElem_bool_inv {H : Type} {P : Program} {e : TypeId} (he : P.underlying e = some .bool) {v : Value} {z : DataW H × List MemPlace} (h : plainElem P e v = some z) : ∃ x, v = .bool x ∧ z = (.lit (.bool x), []) := by
  unfold plainElem at h
  rw [he] at h
  split at h
  · rename_i x _; cases h; exact ⟨_, rfl, rfl⟩
  · rename_i h1; cases h1
  · rename_i h1; cases h1
  · cases h
set_option maxHeartbeats 4000000 in
theorem hear_not (c : Option Addr) (k s y t a d v : Int) (w : World) (h : c = none ∨ (c.isSome ∧ (d != 0) = true) ∨ (c.isSome ∧ (d != 0) = false ∧ (k != 3) = true ∧ (k != 4) = true)) :
    Calls Try.prog 9 #[.pointer c, nt k s y t a d, .int .u8 v] w fun e w' => e = .returned (.tuple #[nt 0 0 0 0 0 0, .bool false]) ∧ Below w.heap.size w w' := by
  rcases h with rfl | ⟨hc, h⟩ | ⟨hc, h0, h1, h2⟩
  · go_enter Try.func9, Try.ntmps9
    go_wp2
    exact bodyPost_ret (v := .tuple #[nt 0 0 0 0 0 0, .bool false]) (by simp [results, Try.results9, go_sem]) rfl ⟨rfl, by repeat (first | exact Below.refl _ _ | (refine Below.alloc ?_ (by simp; try omega) _) | (refine Below.setCell ?_ (by simp; try omega) _))⟩
  · obtain ⟨c, rfl⟩ := Option.isSome_iff_exists.1 hc
    clear hc
    go_enter Try.func9, Try.ntmps9
    go_wp2
    exact bodyPost_ret (v := .tuple #[nt 0 0 0 0 0 0, .bool false]) (by simp [results, Try.results9, go_sem]) rfl ⟨rfl, by repeat (first | exact Below.refl _ _ | (refine Below.alloc ?_ (by simp; try omega) _) | (refine Below.setCell ?_ (by simp; try omega) _))⟩
  · obtain ⟨c, rfl⟩ := Option.isSome_iff_exists.1 hc
    clear hc
    go_enter Try.func9, Try.ntmps9
    go_wp2
    exact bodyPost_ret (v := .tuple #[nt 0 0 0 0 0 0, .bool false]) (by simp [results, Try.results9, go_sem]) rfl ⟨rfl, by repeat (first | exact Below.refl _ _ | (refine Below.alloc ?_ (by simp; try omega) _) | (refine Below.setCell ?_ (by simp; try omega) _))⟩
set_option maxHeartbeats 4000000 in
theorem new_any (w : World) : Calls Try.prog 8 #[] w fun e w' => e = .returned (.pointer (some ⟨w.heap.size + 1 + 1, 0, none⟩)) ∧ w' = ((w.alloc (.map #[] 0)).alloc (.map #[] 0)).alloc (.cells #[.map (some w.heap.size), .map (some (w.heap.size + 1))] 47 (0, 0)) := by
  have hmm := @run_makeMap Try.prog
  go_enter Try.func8, Try.ntmps8
  go_wp2
  go_ret
  exact ⟨rfl, rfl⟩
set_option maxHeartbeats 4000000 in
theorem count_nil (w : World) : Calls Try.prog 11 #[.pointer none] w fun e w' => e = .returned (.int .i64 0) ∧ w' = w := by
  go_enter Try.func11, Try.ntmps11
  go_wp2
  go_ret
  exact ⟨rfl, rfl⟩
set_option maxHeartbeats 4000000 in
theorem count_any {H : Type} (c ba n : Nat) (D : DataW H) (m : Value) (w : World) (hb : w.heap[c]? = some (.cells #[m, .map (some ba)] 47 (0, 0))) (hown : w.ownsMap Try.prog 49 (plainElem Try.prog 4) ba n D) :
    Calls Try.prog 11 #[.pointer (some ⟨c, 0, none⟩)] w fun e w' => e = .returned (.int .i64 (Maps.size D)) ∧ w' = w := by
  obtain ⟨hc0, hc1, hcf⟩ := cells2 hb
  go_enter Try.func11, Try.ntmps11
  go_wp2_with (at_len; refine wpList_len_own _ rfl _ 45 rfl 49 4 Try.underlying45 _ ba n D rfl hown ?_)
  go_ret
  exact ⟨rfl, rfl⟩
set_option maxHeartbeats 4000000 in
theorem aside_nil (s y : Int) (w : World) : Calls Try.prog 10 #[.pointer none, .int .i64 s, .int .i64 y] w fun e w' => e = .returned (.bool false) ∧ w' = w := by
  go_enter Try.func10, Try.ntmps10
  go_wp2
  go_ret
  exact ⟨rfl, rfl⟩
set_option maxHeartbeats 4000000 in
theorem aside_any {H : Type} (c ba n : Nat) (D : DataW H) (m : Value) (s y : Int) (kl : Lit) (x : Bool) (w : World) (hb : w.heap[c]? = some (.cells #[m, .map (some ba)] 47 (0, 0))) (hown : w.ownsMap Try.prog 49 (plainElem Try.prog 4) ba n D)
    (hkey : keyOf Try.prog 49 (.agg #[.int .i64 s, .int .i64 y]) = some kl) (hat : D.atKey kl (.lit (.bool false)) = .lit (.bool x)) :
    Calls Try.prog 10 #[.pointer (some ⟨c, 0, none⟩), .int .i64 s, .int .i64 y] w fun e w' => e = .returned (.bool x) ∧ w' = w := by
  obtain ⟨hc0, hc1, hcf⟩ := cells2 hb
  obtain ⟨v1, ps, hrun, hv⟩ := hown.lookup lawK Try.underlying45 (zero4 _) (plainElem_bool Try.underlying4 false) hkey
  rw [hat] at hv
  obtain ⟨x', rfl, hx⟩ := plainElem_bool_inv Try.underlying4 hv
  obtain rfl : x = x' := by simpa using congrArg Prod.fst hx
  clear hv hx hat
  go_enter Try.func10, Try.ntmps10
  go_wp2
  go_ret
  exact ⟨rfl, rfl⟩
end Go.Proofs.Ytjfckbdeadnfhaa
