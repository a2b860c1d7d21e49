/- New, Trips and Sent over the cart's state. -/
import Derived.Test.YtmenfodphooacaaCartC
import Derived.LoopTactic
namespace Go.Proofs.Ytmenfodphooacaa
open Go.RowKit Go.Maps Go.Proofs.YtmenfodphooacaaW.PrintWords
set_option linter.unusedVariables false

theorem new_cart (w : World) {base : Nat} (hb : base ≤ w.heap.size) : Calls Try.prog 7 #[] w fun e w' => ∃ c S, e = .returned (.pointer (some ⟨c, 0, none⟩)) ∧ IsCart w' base c (fun _ _ => none) [] 0 S ∧ Below w.heap.size w w' ∧ ∀ g, S g → w.heap.size ≤ g := by
  refine (new_any w).mono fun e w' ⟨he, hw⟩ => ?_
  subst hw
  refine ⟨_, fun g => g = w.heap.size ∨ g = w.heap.size + 1, he, ⟨⟨w.heap.size, .slice none 0 0, .map [], ?_, ?_, Says.empty, ?_, fun _ => rfl, .inr rfl, .inl rfl, fun g hg => by simp [Value.ownBlock] at hg⟩, Nat.le_refl _, ?_, ?_⟩, below_alloc (below_alloc (Below.refl _ _) _) _, ?_⟩
  · simpa using blk_new (w.alloc (.map #[] 0)) (.cells #[.map (some w.heap.size), .slice none 0 0] 42 (0, 0))
  · exact (World.ownsMap_made w _ _ _).alloc _
  · exact ⟨rfl, .inl ⟨rfl, rfl⟩⟩
  · rintro g (rfl | rfl) <;> omega
  · rintro g (rfl | rfl)
    · simp; omega
    · simp
  · rintro g (rfl | rfl) <;> omega

theorem trips_nil (w : World) : Calls Try.prog 9 #[.pointer none] w fun e w' => e = .returned (.slice none 0 0) ∧ w' = w := by
  go_enter Try.func9, Try.ntmps9
  go_wp2
  go_ret
  exact ⟨rfl, rfl⟩
set_option maxHeartbeats 4000000 in
theorem trips_empty (c : Nat) (m : Value) (w : World) (hb : w.heap[c]? = some (.cells #[m, .slice none 0 0] 42 (0, 0))) : Calls Try.prog 9 #[.pointer (some ⟨c, 0, none⟩)] w fun e w' => e = .returned (.slice none 0 0) ∧ w' = w := by
  obtain ⟨hc0, hc1, hcf⟩ := cells2 hb
  go_enter Try.func9, Try.ntmps9
  go_wp2
  go_ret
  exact ⟨rfl, rfl⟩
theorem row_cells {w : World} {base : Nat} {e : TypeId} {size : Nat} {v : Value} {n : Nat} {xs : List Value} (h : w.ownsRow base e size v n xs) (hn : 0 < n) : ∃ g cap, v = .slice (some ⟨g, 0, none⟩) n cap ∧ ∀ j u, xs[j]? = some u → w.cell? ((⟨g, 0, none⟩ : Addr).add j) = some u := by
  obtain ⟨h0, (⟨rfl, rfl⟩ | ⟨g, cap, cur, rfl, h1, h2, h3, h4, h5, h6⟩)⟩ := h
  · omega
  · refine ⟨g, cap, rfl, fun j u hu => ?_⟩
    rw [add_plain, blk_cell h2]
    rw [← h6] at hu
    have := List.getElem?_take_of_lt (l := cur.toList) (i := j) (j := n * size) (by
      by_cases hj : j < n * size
      · exact hj
      · rw [List.getElem?_eq_none (by simp; omega)] at hu; cases hu)
    rw [this] at hu
    simpa using hu
set_option maxHeartbeats 4000000 in
theorem trips_some (c : Nat) (m : Value) (base l : Nat) (A : Option Addr) (cap : Nat) (xs : List Value) (w : World) (hb : w.heap[c]? = some (.cells #[m, .slice A l cap] 42 (0, 0))) (hrow : w.ownsRow base 32 2 (.slice A l cap) l xs) (h1 : ∀ u ∈ xs, u.oneCell' = true) (hl : 0 < l) (hl2 : l < 1000) :
    Calls Try.prog 9 #[.pointer (some ⟨c, 0, none⟩)] w fun e w' => ∃ v, e = .returned v ∧ w'.ownsRow w.heap.size 32 2 v l xs ∧ Below w.heap.size w w' := by
  obtain ⟨g, cap', e, hcell⟩ := row_cells hrow hl
  injection e with e1 e2 e3
  subst e1 e3
  obtain ⟨hc0, hc1, hcf⟩ := cells2 hb
  obtain ⟨i0, hi, hz0, hz1, hz2⟩ := info_parts info32
  have hlen : Aside0 (xs.length = l * 2) := ⟨hrow.1⟩
  have H1 := Aside0.mk h1
  have H2 := Aside0.mk hcell
  have H3 : Aside0 (0 + l ≤ maxLen) := ⟨by unfold maxLen; omega⟩
  have H4 : Aside0 ((0 + l) * 16 ≤ 140737488355328) := ⟨by omega⟩
  clear h1 hcell hrow
  go_enter Try.func9, Try.ntmps9
  go_wp2_with (at_builtin; refine wpList_append_own_at _ rfl (.const (.slice none 0 0)) (.tmp 8) 28 rfl w.heap.size 32 i0 _ 2 16 Try.underlying28 hi hz0 hz1 hz2 rfl Nat.zero_lt_two (.slice none 0 0) 0 [] rfl ⟨rfl, .inl ⟨rfl, rfl⟩⟩ ⟨g, 0, none⟩ l cap xs rfl hlen.out H2.out H1.out H3.out H4.out (Nat.le_refl _) ?_; intro v w1 hrow1 hg1 hn1 hat1)
  go_ret
  refine ⟨_, rfl, ?_, (Below.refl _ _).grown hg1 (Nat.le_refl _) (fun k hk => by simp [Value.ownBlock] at hk)⟩
  simpa using hrow1
theorem trips_cart {base c n : Nat} {f : Int → Int → Option Int} {l : List (Int × Int)} {S : Nat → Prop} (w : World) (h : IsCart w base c f l n S) (hn : n < 1000) :
    Calls Try.prog 9 #[.pointer (some ⟨c, 0, none⟩)] w fun e w' => ∃ v, e = .returned v ∧ w'.ownsRow w.heap.size 32 2 v l.length (cellsOf l) ∧ Below w.heap.size w w' := by
  obtain ⟨bm, lv, D, h1, h2, h3, h4, h5, h6, h7, h8⟩ := h.ex
  cases l with
  | nil =>
    obtain rfl := h5 rfl
    exact (trips_empty c _ w h1).mono fun e w' ⟨he, hw⟩ => ⟨_, he, by subst hw; exact ⟨rfl, .inl ⟨rfl, rfl⟩⟩, by subst hw; exact Below.refl _ _⟩
  | cons a l =>
    obtain ⟨A, cap, rfl⟩ := row_form h4
    exact trips_some c _ base _ A cap _ w h1 h4 (cellsOf_one _) (by simp) (by have := h.small; omega)

def cnt (l : List (Int × Int)) (s y : Int) : Int := ((l.filter fun p => p.1 == s && p.2 == y).length : Int)
theorem cnt_snoc (l : List (Int × Int)) (p : Int × Int) (s y : Int) : cnt (l ++ [p]) s y = cnt l s y + if (p.1 == s && p.2 == y) = true then 1 else 0 := by
  unfold cnt
  rw [List.filter_append]
  cases h : (p.1 == s && p.2 == y) <;> simp [h]
theorem cnt_bd (l : List (Int × Int)) (s y : Int) : 0 ≤ cnt l s y ∧ cnt l s y ≤ l.length := by
  unfold cnt
  exact ⟨by omega, by have := List.length_filter_le (fun p : Int × Int => p.1 == s && p.2 == y) l; omega⟩
set_option maxHeartbeats 4000000 in
theorem sent_of (p : Value) (l : List (Int × Int)) (s y : Int) (w : World) (hl : l.length < 1000) (hT : Calls Try.prog 9 #[p] w fun e w' => ∃ v, e = .returned v ∧ w'.ownsRow w.heap.size 32 2 v l.length (cellsOf l) ∧ Below w.heap.size w w') :
    Calls Try.prog 10 #[p, .int .i64 s, .int .i64 y] w fun e w' => e = .returned (.int .i64 (cnt l s y)) ∧ Below w.heap.size w w' := by
  have HT := Aside0.mk hT
  clear hT
  go_enter Try.func10, Try.ntmps10
  go_wp2_with (go_at_call 9; refine HT.out.mono ?_; rintro e w1 ⟨v, rfl, hrow, hB⟩; obtain ⟨A, cap, rfl⟩ := row_form hrow; have HR := Aside0.mk hrow; have HB := Aside0.mk hB; clear hrow hB)
  have H0 : Aside0 (cnt (l.take 0) s y = 0) := ⟨by simp [cnt]⟩
  have HW := Aside0.mk (show w.heap.size ≤ w1.heap.size from HB.out.size)
  go_loopw [7, 13] (fun n i wr => ∃ k : Nat, k ≤ l.length ∧ i = .int .i64 k ∧ n = .int .i64 (cnt (l.take k) s y) ∧ Aside0 (Below w1.heap.size w1 wr)) (fun _ i _ => l.length - (intOf i).toNat)
  case atStart => exact ⟨0, Nat.zero_le _, rfl, by rw [H0.out], ⟨Below.refl _ _⟩⟩
  case round =>
    obtain ⟨k, hk, rfl, rfl, HBr⟩ := hrel
    by_cases hlt : k < l.length
    · obtain ⟨g, cap', e, hcell⟩ := row_cells HR.out (by omega)
      injection e with e1 e2 e3
      subst e1 e3
      have hg := row_lt HR.out g (by simp [Value.ownBlock])
      obtain ⟨q0, q1⟩ := cellsOf_at l k hlt
      have c0 : wr.cell? ⟨g, k * 2, none⟩ = some (.int .i64 l[k].1) := by
        rw [HBr.out.cell (p := ⟨g, k * 2, none⟩) hg]
        have := hcell (k * 2) _ q0
        rwa [add_plain] at this
      have c1 : wr.cell? ⟨g, k * 2 + 1, none⟩ = some (.int .i64 l[k].2) := by
        rw [HBr.out.cell (p := ⟨g, k * 2 + 1, none⟩) hg]
        have := hcell (k * 2 + 1) _ q1
        rwa [add_plain] at this
      have hb := cnt_bd (l.take k) s y
      have hb2 : (l.take k).length ≤ k := List.length_take_le _ _
      have HS : Aside0 (cnt (l.take (k + 1)) s y = cnt (l.take k) s y + if (l[k].1 == s && l[k].2 == y) = true then 1 else 0) := ⟨by rw [List.take_succ_eq_append_getElem hlt]; exact cnt_snoc _ _ _ _⟩
      clear hcell q0 q1
      obtain ⟨p1, hp1⟩ : ∃ p1, p1 = l[k].1 := ⟨_, rfl⟩
      obtain ⟨p2, hp2⟩ : ∃ p2, p2 = l[k].2 := ⟨_, rfl⟩
      rw [← hp1, ← hp2] at HS
      rw [← hp1] at c0
      rw [← hp2] at c1
      clear hp1 hp2
      go_wp2
      all_goals
        go_roundw
        case rel =>
          refine ⟨k + 1, by omega, by go_num, ?_, ⟨?_⟩⟩
          · rw [HS.out]
            first
              | (rw [if_pos (by simp; exact ⟨‹_›, ‹_›⟩)]; done)
              | (rw [if_neg (by simp; intro h; first | exact ‹¬ p2 = y› | exact absurd h ‹¬ p1 = s›)]; simp; done)
          · exact below_alloc HBr.out _
        case measure => simp [intOf]; omega
    · obtain rfl : k = l.length := by omega
      go_wp2
      go_ret
      exact ⟨by first | rfl | (rw [List.take_length]; rfl), HB.out.trans (HBr.out.mono HW.out)⟩
theorem sent_cart {base c n : Nat} {f : Int → Int → Option Int} {l : List (Int × Int)} {S : Nat → Prop} (s y : Int) (w : World) (h : IsCart w base c f l n S) (hn : n < 1000) :
    Calls Try.prog 10 #[.pointer (some ⟨c, 0, none⟩), .int .i64 s, .int .i64 y] w fun e w' => e = .returned (.int .i64 (cnt l s y)) ∧ Below w.heap.size w w' :=
  sent_of _ l s y w (by have := h.small; omega) (trips_cart w h hn)
theorem sent_nil (s y : Int) (w : World) : Calls Try.prog 10 #[.pointer none, .int .i64 s, .int .i64 y] w fun e w' => e = .returned (.int .i64 0) ∧ Below w.heap.size w w' :=
  sent_of _ [] s y w (by simp) ((trips_nil w).mono fun e w' ⟨he, hw⟩ => ⟨_, he, by subst hw; exact ⟨rfl, .inl ⟨rfl, rfl⟩⟩, by subst hw; exact Below.refl _ _⟩)
end Go.Proofs.Ytmenfodphooacaa
