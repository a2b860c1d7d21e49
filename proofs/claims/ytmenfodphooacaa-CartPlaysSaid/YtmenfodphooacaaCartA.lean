/- The cart's functions, as they turn a cart: what is asked of it, and what has been sent. -/
import Derived.Test.YtmenfodphooacaaProg
import Derived.Test.YtmenfodphooacaaWWords
import Derived.Test.YtmenfodphooacaaWKept
import Derived.Maps.OwnSet
import Derived.Maps.Own
import Derived.WalkKit
import Derived.DeepKeys4
import Derived.OwnWalk
import Derived.RegionTactic
import Derived.Deep.QuietTactic
import Derived.BigQuiet
import Derived.Deep.RegionLaw
import Derived.Deep.RegionLawGrows
import Derived.StillTailTactics
import Derived.Laws.Rows
namespace Go.Proofs.Ytmenfodphooacaa
open Go.RowKit Go.Maps Go.Proofs.YtmenfodphooacaaW.PrintWords
set_option linter.unusedVariables false

abbrev nt (k s y t a d : Int) : Value := .agg #[.int .u8 k, .int .i64 s, .int .i64 y, .int .i64 t, .int .i64 a, .int .u8 d]

theorem laidOut0 : laidOutB Try.prog = true := by kernel_rfl
theorem row32 : 32 < Try.prog.types.size := of_decide_eq_true (by kernel_rfl)
theorem lawK : Keyed Try.prog 32 := Keyed.of_law (deep_law_laid laidOut0 (m := 2) (by omega) row32 (by kernel_rfl) (by rw [Try.underlying32]))
theorem zero5 (w : World) : (zeroValue 5).run Try.prog w = .ok (.int .u8 0) w := by kernel_rfl

theorem still_tail_at {P : Program} {id : Nat} {Q : Exit → Act → World → Prop} {a : Act} {w : World} {l : List Oper} (n : Nat) (hm : P.follows .mixedOrders = true) (hB : Region.lexTailB .any l.toArray n = true)
    (h : ∀ V : World, V.heap = w.heap → Below V.heap.size w V → wpStill P l.toArray V (fun a' => wpList P l.toArray Q (l.drop n) a' V) (l.take n) a) : (Code.region id l.toArray true).wp P Q a w :=
  wp_region_still_tail n hm hB (h _ rfl ⟨rfl, rfl, rfl, Nat.le_refl _, fun _ _ => rfl⟩)
/-- What was there is as it was, but for the blocks of S. -/
structure Fr (w w' : World) (S : Nat → Prop) : Prop where
  os : w'.os = w.os
  tape : w'.tape = w.tape
  output : w'.output = w.output
  size : w.heap.size ≤ w'.heap.size
  block : ∀ i, i < w.heap.size → ¬ S i → w'.heap[i]? = w.heap[i]?
theorem Fr.refl (w : World) (S : Nat → Prop) : Fr w w S := ⟨rfl, rfl, rfl, Nat.le_refl _, fun _ _ _ => rfl⟩
theorem Fr.trans {a b c : World} {S : Nat → Prop} (h : Fr a b S) (k : Fr b c S) : Fr a c S := ⟨k.os.trans h.os, k.tape.trans h.tape, k.output.trans h.output, Nat.le_trans h.size k.size, fun i hi hn => (k.block i (Nat.lt_of_lt_of_le hi h.size) hn).trans (h.block i hi hn)⟩
theorem Fr.trans' {a b c : World} {S S' : Nat → Prop} (h : Fr a b S) (k : Fr b c S') (hs : ∀ i, i < a.heap.size → S' i → S i) : Fr a c S := ⟨k.os.trans h.os, k.tape.trans h.tape, k.output.trans h.output, Nat.le_trans h.size k.size, fun i hi hn => (k.block i (Nat.lt_of_lt_of_le hi h.size) (fun hk => hn (hs i hi hk))).trans (h.block i hi hn)⟩
theorem Fr.of_below {w w' : World} (h : Below w.heap.size w w') (S : Nat → Prop) : Fr w w' S := ⟨h.os, h.tape, h.output, h.size, fun i hi _ => h.block i hi⟩
theorem Fr.same {w w' V : World} (e : w'.heap = w.heap) (h : Below V.heap.size w w') (S : Nat → Prop) : Fr w w' S := ⟨h.os, h.tape, h.output, h.size, fun i _ _ => by rw [e]⟩
theorem Fr.set {a w : World} {S : Nat → Prop} (h : Fr a w S) {p : Addr} (hp : S p.block ∨ a.heap.size ≤ p.block) (u : Value) : Fr a (w.setCell p u) S :=
  h.trans' (S' := fun i => i = p.block) ⟨rfl, rfl, rfl, by simp [World.setCell], fun i _ hn => Below.heap_setCell w p u i hn⟩ (fun i hi e => hp.elim (fun h => e ▸ h) (fun h => absurd hi (by omega)))
theorem Fr.alloc {a w : World} {S : Nat → Prop} (h : Fr a w S) (o : Obj) : Fr a (w.alloc o) S := h.trans (Fr.of_below (below_alloc (Below.refl _ _) _) S)
theorem Fr.mono {a w : World} {S S' : Nat → Prop} (h : Fr a w S) (hs : ∀ i, S i → S' i) : Fr a w S' := ⟨h.os, h.tape, h.output, h.size, fun i hi hn => h.block i hi (fun k => hn (hs i k))⟩
theorem Fr.below {a w : World} {S : Nat → Prop} (h : Fr a w S) {B : Nat} (hB : B ≤ a.heap.size) (hs : ∀ i, S i → B ≤ i) : Below B a w := ⟨h.os, h.tape, h.output, h.size, fun i hi => h.block i (by omega) (fun k => by have := hs i k; omega)⟩
theorem Fr.at {a w : World} {S : Nat → Prop} (h : Fr a w S) {g : Nat} {o : Obj} (hg : a.heap[g]? = some o) (hn : ¬ S g) : w.heap[g]? = some o := (h.block g (blk_lt hg) hn).trans hg
theorem fr7 {a w : World} {S : Nat → Prop} (h : Fr a w S) {g g' : Nat} (hg : a.heap.size ≤ g) (hg' : a.heap.size ≤ g') (x0 x1 x2 x3 x4 x5 x6 : Value) : Fr a (((((((w.setCell ⟨g, 5, none⟩ x0).setCell ⟨g', 0, none⟩ x1).setCell ⟨g', 1, none⟩ x2).setCell ⟨g', 2, none⟩ x3).setCell ⟨g', 3, none⟩ x4).setCell ⟨g', 4, none⟩ x5).setCell ⟨g', 5, none⟩ x6) S :=
  ((((((h.set (p := ⟨g, 5, none⟩) (.inr hg) x0).set (p := ⟨g', 0, none⟩) (.inr hg') x1).set (p := ⟨g', 1, none⟩) (.inr hg') x2).set (p := ⟨g', 2, none⟩) (.inr hg') x3).set (p := ⟨g', 3, none⟩) (.inr hg') x4).set (p := ⟨g', 4, none⟩) (.inr hg') x5).set (p := ⟨g', 5, none⟩) (.inr hg') x6
theorem own7 {H : Type} {w : World} {P : Program} {k : TypeId} {R : Value → Option (DataW H × List MemPlace)} {b n g g' : Nat} {D : DataW H} (h : w.ownsMap P k R b n D) (hg : b ≠ g) (hg' : b ≠ g') (x0 x1 x2 x3 x4 x5 x6 : Value) : (((((((w.setCell ⟨g, 5, none⟩ x0).setCell ⟨g', 0, none⟩ x1).setCell ⟨g', 1, none⟩ x2).setCell ⟨g', 2, none⟩ x3).setCell ⟨g', 3, none⟩ x4).setCell ⟨g', 4, none⟩ x5).setCell ⟨g', 5, none⟩ x6).ownsMap P k R b n D :=
  ((((((h.setCell (a := ⟨g, 5, none⟩) hg x0).setCell (a := ⟨g', 0, none⟩) hg' x1).setCell (a := ⟨g', 1, none⟩) hg' x2).setCell (a := ⟨g', 2, none⟩) hg' x3).setCell (a := ⟨g', 3, none⟩) hg' x4).setCell (a := ⟨g', 4, none⟩) hg' x5).setCell (a := ⟨g', 5, none⟩) hg' x6
theorem ne_map {H : Type} {w : World} {P : Program} {k : TypeId} {R : Value → Option (DataW H × List MemPlace)} {b n g : Nat} {D : DataW H} {cs : Array Value} {t : TypeId} (h : w.ownsMap P k R b n D) (hg : w.heap[g]? = some (.cells cs t (0, 0))) : some g ≠ some b := by
  rintro e
  injection e with e
  subst e
  obtain ⟨es, cl, h1, _⟩ := h
  rw [hg] at h1
  cases h1
theorem pw_below_drewN2 {B : Nat} {w W : World} (h : Below B w W) (m : Nat) : Below B w (W.drewN m) := ⟨h.os, h.tape, h.output, h.size, h.block⟩
theorem cells2 {w : World} {g : Nat} {t : TypeId} {a b : Value} (h : w.heap[g]? = some (.cells #[a, b] t (0, 0))) : w.cell? ⟨g, 0, none⟩ = some a ∧ w.cell? ⟨g, 1, none⟩ = some b ∧ ∀ j, w.frozen? ⟨g, j, none⟩ = false := ⟨(blk_cell h 0).trans rfl, (blk_cell h 1).trans rfl, fun j => blk_frozen h j⟩
theorem cells6 {w : World} {g : Nat} {t : TypeId} {a b c d e f : Value} (h : w.heap[g]? = some (.cells #[a, b, c, d, e, f] t (0, 0))) : w.cell? ⟨g, 0, none⟩ = some a ∧ w.cell? ⟨g, 1, none⟩ = some b ∧ w.cell? ⟨g, 2, none⟩ = some c ∧ w.cell? ⟨g, 3, none⟩ = some d ∧ w.cell? ⟨g, 4, none⟩ = some e ∧ w.cell? ⟨g, 5, none⟩ = some f ∧ ∀ j, w.frozen? ⟨g, j, none⟩ = false :=
  ⟨(blk_cell h 0).trans rfl, (blk_cell h 1).trans rfl, (blk_cell h 2).trans rfl, (blk_cell h 3).trans rfl, (blk_cell h 4).trans rfl, (blk_cell h 5).trans rfl, fun j => blk_frozen h j⟩
theorem put6 {w : World} {g : Nat} {t : TypeId} {a b c d e f a' b' c' d' e' f' : Value} (h : w.heap[g]? = some (.cells #[a, b, c, d, e, f] t (0, 0))) : ((((((w.setCell ⟨g, 0, none⟩ a').setCell ⟨g, 1, none⟩ b').setCell ⟨g, 2, none⟩ c').setCell ⟨g, 3, none⟩ d').setCell ⟨g, 4, none⟩ e').setCell ⟨g, 5, none⟩ f').heap[g]? = some (.cells #[a', b', c', d', e', f'] t (0, 0)) :=
  blk_put (blk_put (blk_put (blk_put (blk_put (blk_put h 0 a' rfl) 1 b' rfl) 2 c' rfl) 3 d' rfl) 4 e' rfl) 5 f' rfl
set_option maxHeartbeats 4000000 in
theorem hear_not (c : Option Addr) (k s y t a d v : Int) (w : World) (h : c = none ∨ (c.isSome ∧ (d != 0) = true) ∨ (c.isSome ∧ (d != 0) = false ∧ (k != 5) = true)) :
    Calls Try.prog 8 #[.pointer c, nt k s y t a d, .int .u8 v] w fun e w' => e = .returned (.tuple #[nt 0 0 0 0 0 0, .bool false]) ∧ Below w.heap.size w w' := by
  rcases h with rfl | ⟨hc, h⟩ | ⟨hc, h0, h⟩
  · go_enter Try.func8, Try.ntmps8
    go_wp2
    exact bodyPost_ret (v := .tuple #[nt 0 0 0 0 0 0, .bool false]) (by simp [results, Try.results8, go_sem]) rfl ⟨rfl, by repeat (first | exact Below.refl _ _ | (refine Below.alloc ?_ (by simp; try omega) _) | (refine Below.setCell ?_ (by simp; try omega) _))⟩
  · obtain ⟨c, rfl⟩ := Option.isSome_iff_exists.1 hc
    clear hc
    go_enter Try.func8, Try.ntmps8
    go_wp2
    exact bodyPost_ret (v := .tuple #[nt 0 0 0 0 0 0, .bool false]) (by simp [results, Try.results8, go_sem]) rfl ⟨rfl, by repeat (first | exact Below.refl _ _ | (refine Below.alloc ?_ (by simp; try omega) _) | (refine Below.setCell ?_ (by simp; try omega) _))⟩
  · obtain ⟨c, rfl⟩ := Option.isSome_iff_exists.1 hc
    clear hc
    go_enter Try.func8, Try.ntmps8
    go_wp2
    exact bodyPost_ret (v := .tuple #[nt 0 0 0 0 0 0, .bool false]) (by simp [results, Try.results8, go_sem]) rfl ⟨rfl, by repeat (first | exact Below.refl _ _ | (refine Below.alloc ?_ (by simp; try omega) _) | (refine Below.setCell ?_ (by simp; try omega) _))⟩
set_option maxHeartbeats 4000000 in
theorem new_any (w : World) : Calls Try.prog 7 #[] w fun e w' => e = .returned (.pointer (some ⟨w.heap.size + 1, 0, none⟩)) ∧ w' = (w.alloc (.map #[] 0)).alloc (.cells #[.map (some w.heap.size), .slice none 0 0] 42 (0, 0)) := by
  have hmm := @run_makeMap Try.prog
  go_enter Try.func7, Try.ntmps7
  go_wp2
  go_ret
  exact ⟨rfl, rfl⟩
set_option maxHeartbeats 4000000 in
theorem hear_known {H : Type} (c bm n : Nat) (D : DataW H) (lv : Value) (k s y t a d v : Int) (kl : Lit) (u : Int) (w : World) (hd : (d != 0) = false) (hk : (k != 5) = false) (hb : w.heap[c]? = some (.cells #[.map (some bm), lv] 42 (0, 0)))
    (hown : w.ownsMap Try.prog 32 (plainElem Try.prog 5) bm n D) (hkey : keyOf Try.prog 32 (.agg #[.int .i64 s, .int .i64 y]) = some kl) (hh : Maps.has D kl = true) (hat : D.atKey kl (.lit (.int .u8 0)) = .lit (.int .u8 u)) :
    Calls Try.prog 8 #[.pointer (some ⟨c, 0, none⟩), nt k s y t a d, .int .u8 v] w fun e w' => e = .returned (.tuple #[nt k s y t a u, .bool true]) ∧ Below w.heap.size w w' := by
  have c0 : w.cell? ⟨c, 0, none⟩ = some (.map (some bm)) := (blk_cell hb 0).trans rfl
  have hlt := blk_lt hb
  go_enter Try.func8, Try.ntmps8
  go_wp2
  obtain ⟨W, hWd⟩ : ∃ W, W = (((w.alloc (Obj.cells #[Value.int IntKind.u8 k, Value.int IntKind.i64 s, Value.int IntKind.i64 y, Value.int IntKind.i64 t, Value.int IntKind.i64 a, Value.int IntKind.u8 d] 30)).alloc (Obj.cells #[Value.int IntKind.u8 0, Value.int IntKind.i64 0, Value.int IntKind.i64 0, Value.int IntKind.i64 0, Value.int IntKind.i64 0, Value.int IntKind.u8 0] 30)).alloc (Obj.cells #[Value.int IntKind.i64 s, Value.int IntKind.i64 y] 32)) := ⟨_, rfl⟩
  rw [← hWd]
  have hownW : W.ownsMap Try.prog 32 (plainElem Try.prog 5) bm n D := by rw [hWd]; exact ((hown.alloc _).alloc _).alloc _
  have hbW : W.heap[c]? = some (.cells #[.map (some bm), lv] 42 (0, 0)) := by rw [hWd]; exact blk_alloc (blk_alloc (blk_alloc hb _) _) _
  have hBW : Below w.heap.size w W := by rw [hWd]; repeat (first | exact Below.refl _ _ | (refine Below.alloc ?_ (by simp; try omega) _))
  obtain ⟨g1, hg1⟩ : ∃ g, g = w.heap.size := ⟨_, rfl⟩
  have hn : W.heap[g1]? = some (.cells #[.int .u8 k, .int .i64 s, .int .i64 y, .int .i64 t, .int .i64 a, .int .u8 d] 30 (0, 0)) := by rw [hWd, hg1]; exact blk_alloc (blk_alloc (blk_new _ _) _) _
  have hr : W.heap[g1 + 1]? = some (.cells #[.int .u8 0, .int .i64 0, .int .i64 0, .int .i64 0, .int .i64 0, .int .u8 0] 30 (0, 0)) := by rw [hWd, hg1]; exact blk_alloc (heap_alloc2_new w _ _) _
  have hx : W.heap[g1 + 1 + 1]? = some (.cells #[.int .i64 s, .int .i64 y] 32 (0, 0)) := by rw [hWd, hg1]; simpa using blk_new ((w.alloc (Obj.cells #[Value.int IntKind.u8 k, Value.int IntKind.i64 s, Value.int IntKind.i64 y, Value.int IntKind.i64 t, Value.int IntKind.i64 a, Value.int IntKind.u8 d] 30)).alloc (Obj.cells #[Value.int IntKind.u8 0, Value.int IntKind.i64 0, Value.int IntKind.i64 0, Value.int IntKind.i64 0, Value.int IntKind.i64 0, Value.int IntKind.u8 0] 30)) (Obj.cells #[Value.int IntKind.i64 s, Value.int IntKind.i64 y] 32)
  rw [← hg1] at hBW ⊢
  have hlW : W.heap.size = g1 + 1 + 1 + 1 := by rw [hWd, hg1]; simp
  have hlg : c < g1 := by rw [hg1]; exact hlt
  have HG := Aside0.mk hg1
  clear hWd hown hb c0 hlt hg1
  obtain ⟨hn0, hn1, hn2, hn3, hn4, hn5, hnf⟩ := cells6 hn
  obtain ⟨hr0, hr1, hr2, hr3, hr4, hr5, hrf⟩ := cells6 hr
  obtain ⟨hx0, hx1, hxf⟩ := cells2 hx
  obtain ⟨hc0, hc1, hcf⟩ := cells2 hbW
  have hrunN : ∀ nq, (Instr.lookup 40 (.map (some bm)) (.agg #[.int .i64 s, .int .i64 y]) true).run Try.prog (W.drewN nq) = .ok (.tuple #[.int .u8 u, .bool true]) (W.drewN nq) := by
    intro nq
    have hownN : (W.drewN nq).ownsMap Try.prog 32 (plainElem Try.prog 5) bm n D := hownW
    obtain ⟨v1, ps, hrun, hv⟩ := hownN.look_ok lawK Try.underlying40 (zero5 _) (plainElem_int Try.underlying5 (by decide)) hkey
    rw [hat] at hv
    obtain ⟨u', rfl, hu', _⟩ := plainElem_int_inv Try.underlying5 hv
    obtain rfl : u = u' := by simpa using congrArg Prod.fst hu'
    rw [hh] at hrun
    exact hrun
  have hrun0 := hrunN 0
  clear hat hh hkey
  go_quiet (fail)
  go_wp2
  refine bodyPost_ret (results_ct Try.results8 _ _ (g1 + 1) 30 #[.int .u8 k, .int .i64 s, .int .i64 y, .int .i64 t, .int .i64 a, .int .u8 u] (0, 0) _ rfl ?hres Try.underlying30 rfl (by kernel_rfl)) rfl ?_
  case hres => exact put6 (blk_far (blk_drewN hr _) (show g1 + 1 ≠ g1 by omega) _)
  refine ⟨by rfl, ?_⟩
  rw [← HG.out]
  repeat (first | (with_reducible exact hBW) | (with_reducible refine Below.setCell ?_ (show g1 ≤ g1 + 1 by omega) _) | (with_reducible refine Below.setCell ?_ (show g1 ≤ g1 by omega) _) | (with_reducible refine pw_below_drewN2 ?_ _))
set_option maxHeartbeats 4000000 in
theorem hear_no {H : Type} (c bm n : Nat) (D : DataW H) (lv : Value) (k s y t a d v : Int) (kl : Lit) (w : World) (hd : (d != 0) = false) (hk : (k != 5) = false) (hb : w.heap[c]? = some (.cells #[.map (some bm), lv] 42 (0, 0)))
    (hown : w.ownsMap Try.prog 32 (plainElem Try.prog 5) bm n D) (hkey : keyOf Try.prog 32 (.agg #[.int .i64 s, .int .i64 y]) = some kl) (hh : Maps.has D kl = false) (hv1 : (v == 1) = false) (hnm : n < maxLen) :
    Calls Try.prog 8 #[.pointer (some ⟨c, 0, none⟩), nt k s y t a d, .int .u8 v] w fun e w' => e = .returned (.tuple #[nt k s y t a 3, .bool true]) ∧ w'.ownsMap Try.prog 32 (plainElem Try.prog 5) bm (n + 1) (D.put kl (.lit (.int .u8 3))) ∧ Fr w w' (fun i => i = bm) := by
  have c0 : w.cell? ⟨c, 0, none⟩ = some (.map (some bm)) := (blk_cell hb 0).trans rfl
  have hlt := blk_lt hb
  go_enter Try.func8, Try.ntmps8
  go_wp2
  obtain ⟨W, hWd⟩ : ∃ W, W = (((w.alloc (Obj.cells #[Value.int IntKind.u8 k, Value.int IntKind.i64 s, Value.int IntKind.i64 y, Value.int IntKind.i64 t, Value.int IntKind.i64 a, Value.int IntKind.u8 d] 30)).alloc (Obj.cells #[Value.int IntKind.u8 0, Value.int IntKind.i64 0, Value.int IntKind.i64 0, Value.int IntKind.i64 0, Value.int IntKind.i64 0, Value.int IntKind.u8 0] 30)).alloc (Obj.cells #[Value.int IntKind.i64 s, Value.int IntKind.i64 y] 32)) := ⟨_, rfl⟩
  rw [← hWd]
  have hownW : W.ownsMap Try.prog 32 (plainElem Try.prog 5) bm n D := by rw [hWd]; exact ((hown.alloc _).alloc _).alloc _
  have hbW : W.heap[c]? = some (.cells #[.map (some bm), lv] 42 (0, 0)) := by rw [hWd]; exact blk_alloc (blk_alloc (blk_alloc hb _) _) _
  have hBW : Below w.heap.size w W := by rw [hWd]; repeat (first | exact Below.refl _ _ | (refine Below.alloc ?_ (by simp; try omega) _))
  obtain ⟨g1, hg1⟩ : ∃ g, g = w.heap.size := ⟨_, rfl⟩
  have hn : W.heap[g1]? = some (.cells #[.int .u8 k, .int .i64 s, .int .i64 y, .int .i64 t, .int .i64 a, .int .u8 d] 30 (0, 0)) := by rw [hWd, hg1]; exact blk_alloc (blk_alloc (blk_new _ _) _) _
  have hr : W.heap[g1 + 1]? = some (.cells #[.int .u8 0, .int .i64 0, .int .i64 0, .int .i64 0, .int .i64 0, .int .u8 0] 30 (0, 0)) := by rw [hWd, hg1]; exact blk_alloc (heap_alloc2_new w _ _) _
  have hx : W.heap[g1 + 1 + 1]? = some (.cells #[.int .i64 s, .int .i64 y] 32 (0, 0)) := by rw [hWd, hg1]; simpa using blk_new ((w.alloc (Obj.cells #[Value.int IntKind.u8 k, Value.int IntKind.i64 s, Value.int IntKind.i64 y, Value.int IntKind.i64 t, Value.int IntKind.i64 a, Value.int IntKind.u8 d] 30)).alloc (Obj.cells #[Value.int IntKind.u8 0, Value.int IntKind.i64 0, Value.int IntKind.i64 0, Value.int IntKind.i64 0, Value.int IntKind.i64 0, Value.int IntKind.u8 0] 30)) (Obj.cells #[Value.int IntKind.i64 s, Value.int IntKind.i64 y] 32)
  rw [← hg1] at hBW ⊢
  have hlW : W.heap.size = g1 + 1 + 1 + 1 := by rw [hWd, hg1]; simp
  have hlg : c < g1 := by rw [hg1]; exact hlt
  have HG := Aside0.mk hg1
  clear hWd hown hb c0 hlt hg1
  obtain ⟨hn0, hn1, hn2, hn3, hn4, hn5, hnf⟩ := cells6 hn
  obtain ⟨hr0, hr1, hr2, hr3, hr4, hr5, hrf⟩ := cells6 hr
  obtain ⟨hx0, hx1, hxf⟩ := cells2 hx
  obtain ⟨hc0, hc1, hcf⟩ := cells2 hbW
  have hrunN : ∀ nq, (Instr.lookup 40 (.map (some bm)) (.agg #[.int .i64 s, .int .i64 y]) true).run Try.prog (W.drewN nq) = .ok (.tuple #[.int .u8 0, .bool false]) (W.drewN nq) := by
    intro nq
    have hownN : (W.drewN nq).ownsMap Try.prog 32 (plainElem Try.prog 5) bm n D := hownW
    obtain ⟨v1, ps, hrun, hv⟩ := hownN.look_ok lawK Try.underlying40 (zero5 _) (plainElem_int Try.underlying5 (by decide)) hkey
    rw [atKey_of_not_has hh] at hv
    obtain ⟨u', rfl, hu', _⟩ := plainElem_int_inv Try.underlying5 hv
    obtain rfl : (0 : Int) = u' := by simpa using congrArg Prod.fst hu'
    rw [hh] at hrun
    exact hrun
  have hrun0 := hrunN 0
  have HK := Aside0.mk hkey
  clear hh hkey
  go_quiet (fail)
  clear hrunN hrun0
  go_wp2
  refine still_tail_at 6 (by kernel_rfl) (by kernel_rfl) ?_
  intro V eV bV
  have hownV : V.ownsMap Try.prog 32 (plainElem Try.prog 5) bm n D := by obtain ⟨es, cl, h1, h2⟩ := hownW; exact ⟨es, cl, by rw [eV]; exact h1, h2⟩
  rw [show (W.drewN nq).heap = W.heap from rfl] at eV
  rw [← eV] at hn hr hx hbW hlW
  obtain ⟨V1, eV1⟩ : ∃ V1, V1 = V := ⟨_, rfl⟩
  clear hn0 hn1 hn2 hn3 hn4 hn5 hnf hr0 hr1 hr2 hr3 hr4 hr5 hrf hx0 hx1 hxf hc0 hc1 hcf
  have EV := Aside0.mk eV
  clear eV eV1
  obtain ⟨hn0, hn1, hn2, hn3, hn4, hn5, hnf⟩ := cells6 hn
  obtain ⟨hr0, hr1, hr2, hr3, hr4, hr5, hrf⟩ := cells6 hr
  obtain ⟨hx0, hx1, hxf⟩ := cells2 hx
  obtain ⟨hc0, hc1, hcf⟩ := cells2 hbW
  simp only [List.take_succ_cons, List.take_zero, List.drop_succ_cons, List.drop_zero]
  repeat still_step
  refine wpStill_nil ?_
  go_wp2_with (at_mapUpdate; refine wpList_mapUpdate_own _ rfl _ _ _ 40 rfl 32 5 lawK Try.underlying40 _ bm n D rfl hownV hnm _ _ _ rfl rfl HK.out _ [] (plainElem_int Try.underlying5 (by decide)) ?_; intro w1 hown1 hg1; have hn1_ := blk_grown hn hg1 (ne_map hownV hn); have hr1_ := blk_grown hr hg1 (ne_map hownV hr); clear hn0 hn1 hn2 hn3 hn4 hn5 hnf hr0 hr1 hr2 hr3 hr4 hr5 hrf hx0 hx1 hxf hc0 hc1 hcf; obtain ⟨hn0, hn1, hn2, hn3, hn4, hn5, hnf⟩ := cells6 hn1_; obtain ⟨hr0, hr1, hr2, hr3, hr4, hr5, hrf⟩ := cells6 hr1_)
  refine bodyPost_ret (results_ct Try.results8 _ _ (g1 + 1) 30 #[.int .u8 k, .int .i64 s, .int .i64 y, .int .i64 t, .int .i64 a, .int .u8 3] (0, 0) _ rfl ?hres Try.underlying30 rfl (by kernel_rfl)) rfl ?_
  case hres => exact put6 (blk_far hr1_ (show g1 + 1 ≠ g1 by omega) _)
  have nb : bm < g1 := by
    obtain ⟨es, cl, h1, _⟩ := hownV
    have h2 := blk_lt h1
    have h3 : ¬ (bm = g1 ∨ bm = g1 + 1 ∨ bm = g1 + 1 + 1) := by
      rintro (e | e | e) <;> rw [e] at h1
      · rw [hn] at h1; cases h1
      · rw [hr] at h1; cases h1
      · rw [hx] at h1; cases h1
    omega
  have e1 := HG.out
  have e2 := EV.out
  subst e1
  have f1 : Fr w w1 (fun i => i = bm) := ((Fr.of_below (pw_below_drewN2 hBW nq) _).trans (Fr.same (w := W.drewN nq) e2 bV _)).trans ⟨hg1.os, hg1.tape, hg1.output, hg1.size, fun i hi hn => hg1.block i hi (fun e => hn (by injection e))⟩
  exact ⟨rfl, own7 hown1 (by omega) (by omega) _ _ _ _ _ _ _, fr7 f1 (Nat.le_refl _) (Nat.le_succ _) _ _ _ _ _ _ _⟩
end Go.Proofs.Ytmenfodphooacaa
