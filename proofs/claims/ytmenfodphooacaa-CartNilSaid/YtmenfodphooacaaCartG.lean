/- CartNil: what isn't asked of a cart is passed over; a nil cart has nothing. -/
import Derived.Test.YtmenfodphooacaaCartF
namespace Go.Proofs.Ytmenfodphooacaa
open Go.RowKit Go.Maps Go.Proofs.YtmenfodphooacaaW.PrintWords
set_option linter.unusedVariables false

/-- Hear at a cart, whatever is asked. -/
theorem hear_all {base c n : Nat} {f : Int → Int → Option Int} {l : List (Int × Int)} {S : Nat → Prop} (k s y t a d v : Int) (w : World) (hs : (Lit.int .i64 s).wf = true) (hy : (Lit.int .i64 y).wf = true) (h : IsCart w base c f l n S) (hb : base ≤ w.heap.size) (hn : n < 900) (m : Bool) (hm : m = (d == 0 && k == 5)) (l' : List (Int × Int)) (hl : l' = if m then hearL f l s y v else l) :
    Calls Try.prog 8 #[.pointer (some ⟨c, 0, none⟩), nt k s y t a d, .int .u8 v] w fun e w' => ∃ z0 z1 z2 z3 z4 z5 f' S', e = .returned (.tuple #[nt z0 z1 z2 z3 z4 z5, .bool m]) ∧ IsCart w' base c f' l' (n + 1) S' ∧ Fr w w' S ∧ (∀ g, S' g → S g ∨ w.heap.size ≤ g) := by
  cases hd : (d == 0) with
  | true =>
    obtain rfl : d = 0 := by simpa using hd
    cases hk : (k == 5) with
    | true =>
      obtain rfl : k = 5 := by simpa using hk
      simp only [hk, Bool.and_true, hd] at hm
      subst hm
      subst hl
      refine (hear_cart s y t a v w hs hy h hb hn).mono fun e w' ⟨he, S', h1, h2, h3⟩ => ?_
      exact ⟨_, _, _, _, _, _, _, S', he, h1, h2, h3⟩
    | false =>
      have hk : (k != 5) = true := by simpa [bne] using hk
      have hm : m = false := by rw [hm]; simp [bne] at hk; simp [hk]
      subst hm
      subst hl
      refine (hear_not _ k s y t a 0 v w (.inr (.inr ⟨rfl, by decide, hk⟩))).mono fun e w' ⟨he, hB⟩ => ?_
      have k0 := h.below hB
      exact ⟨_, _, _, _, _, _, f, S, he, ⟨by obtain ⟨bm, lv, D, h1, h2, h3, h4, h5, h6, h7, h8⟩ := k0.ex; exact ⟨bm, lv, D, h1, h2.mono (Nat.le_succ _), h3, h4, h5, h6, h7, h8⟩, Nat.le_succ_of_le k0.small, k0.lo, k0.hi⟩, Fr.of_below hB S, fun g hg => .inl hg⟩
  | false =>
    have hd : (d != 0) = true := by simpa [bne] using hd
    have hm : m = false := by rw [hm]; simp [bne] at hd; simp [hd]
    subst hm
    subst hl
    refine (hear_not _ k s y t a d v w (.inr (.inl ⟨rfl, hd⟩))).mono fun e w' ⟨he, hB⟩ => ?_
    have k0 := h.below hB
    exact ⟨_, _, _, _, _, _, f, S, he, ⟨by obtain ⟨bm, lv, D, h1, h2, h3, h4, h5, h6, h7, h8⟩ := k0.ex; exact ⟨bm, lv, D, h1, h2.mono (Nat.le_succ _), h3, h4, h5, h6, h7, h8⟩, Nat.le_succ_of_le k0.small, k0.lo, k0.hi⟩, Fr.of_below hB S, fun g hg => .inl hg⟩

set_option maxHeartbeats 4000000 in
theorem nil_any (k s y t a d v : Int) (w : World) (hs : (Lit.int .i64 s).wf = true) (hy : (Lit.int .i64 y).wf = true) :
    Calls Try.prog 4 #[nt k s y t a d, .int .u8 v] w fun e w' => e = .returned (.bool true) ∧ Below w.heap.size w w' := by
  have HS := Aside0.mk hs
  have HY := Aside0.mk hy
  clear hs hy
  obtain ⟨m, hm⟩ : ∃ m, m = (d == 0 && k == 5) := ⟨_, rfl⟩
  have HM := Aside0.mk hm
  have hmt : (if d == 0 then (k == 5) else false) = m := by rw [hm]; cases (d == 0) <;> simp
  clear hm
  go_enter Try.func4, Try.ntmps4
  go_wp2_with fail
  go_at_call 8
  have q0 := blk_new w (bx6 k s y t a d)
  have B0 := below_alloc (Below.refl w.heap.size w) (bx6 k s y t a d)
  obtain ⟨g, hg⟩ : ∃ g, g = w.heap.size := ⟨_, rfl⟩
  have HG := Aside0.mk hg
  rw [← hg] at q0 ⊢
  obtain ⟨W, hW⟩ : ∃ W, W = w.alloc (bx6 k s y t a d) := ⟨_, rfl⟩
  rw [← hW] at q0 B0
  rw [show w.alloc (.cells #[.int .u8 k, .int .i64 s, .int .i64 y, .int .i64 t, .int .i64 a, .int .u8 d] 30) = W from hW.symm]
  clear hW hg
  refine (hear_not none k s y t a d v W (.inl rfl)).mono ?_
  rintro e w1 ⟨rfl, B1⟩
  have q1 := blk_below q0 B1
  have C1 := B0.trans (B1.mono B0.size)
  clear q0 B0 B1
  clear W
  have hgl := blk_lt q1
  obtain ⟨hn0, hn1, hn2, hn3, hn4, hn5, hnf⟩ := cells6 q1
  go_wp2_with fail
  go_at_call 7
  have q2 := blk_alloc q1 z6
  have C2 := below_alloc C1 z6
  obtain ⟨W, hW⟩ : ∃ W, W = w1.alloc z6 := ⟨_, rfl⟩
  rw [← hW] at q2 C2
  rw [show w1.alloc (.cells #[.int .u8 0, .int .i64 0, .int .i64 0, .int .i64 0, .int .i64 0, .int .u8 0] 30) = W from hW.symm]
  clear hW q1 C1 hgl hn0 hn1 hn2 hn3 hn4 hn5 hnf
  refine (new_cart (base := W.heap.size) W (Nat.le_refl _)).mono ?_
  rintro e w2 ⟨c, S, rfl, HC, hB, hS⟩
  have q3 := blk_below q2 hB
  have C3 := C2.trans (hB.mono C2.size)
  have nS : ¬ S g := fun h => by have := hS _ h; have := blk_lt q2; omega
  have hS' : ∀ i, S i → w.heap.size ≤ i := fun i h => Nat.le_trans C2.size (hS i h)
  obtain ⟨base, hbase⟩ : ∃ b, b = W.heap.size := ⟨_, rfl⟩
  have hbw : base ≤ w2.heap.size := by rw [hbase]; exact hB.size
  rw [← hbase] at HC
  clear hbase q2 C2 hB hS
  clear W
  have hgl := blk_lt q3
  obtain ⟨hn0, hn1, hn2, hn3, hn4, hn5, hnf⟩ := cells6 q3
  go_wp2_with fail
  go_at_call 8
  obtain ⟨L, hL⟩ : ∃ L, L = if m = true then hearL (fun _ _ => none) [] s y v else [] := ⟨_, rfl⟩
  have HC1 : Aside0 (cnt L s y = if (m && (v == 1)) = true then 1 else 0) := ⟨by
    rw [hL]; cases m <;> simp [hearL, cnt]
    split <;> simp⟩
  have HC2 : Aside0 (L.length = if (m && (v == 1)) = true then 1 else 0) := ⟨by
    rw [hL]; cases m <;> simp [hearL]
    split <;> simp⟩
  refine (hear_all k s y t a d v w2 HS.out HY.out HC hbw (by omega) m HM.out L hL).mono ?_
  rintro e w4 ⟨y0, y1, y2, y3, y4, y5, f', S', rfl, HC', F', hS4⟩
  have q4 := F'.at q3 nS
  have C4 : Below w.heap.size w w4 := C3.trans (F'.below C3.size hS')
  have HCC := Aside0.mk HC'
  clear q3 C3 F' hS4 HC hS' nS hgl hn0 hn1 hn2 hn3 hn4 hn5 hnf hbw HC'
  clear w2
  obtain ⟨hn0, hn1, hn2, hn3, hn4, hn5, hnf⟩ := cells6 q4
  have hgl := blk_lt q4
  have C5 := below_alloc C4 (bx6 y0 y1 y2 y3 y4 y5)
  have D5 := Aside0.mk (HCC.out.alloc (bx6 y0 y1 y2 y3 y4 y5))
  clear hL
  have q5 := blk_alloc q4 (bx6 y0 y1 y2 y3 y4 y5)
  have Q5 := Aside0.mk q5
  have E5 := Aside0.mk C5
  clear C5 q5 C4 HCC
  clear hmt
  clear q4 hgl hn0 hn1 hn2 hn3 hn4 hn5 hnf
  cases hd : (d == 0) <;> cases hk : (k == 5) <;> cases hv : (v == 1)
  all_goals
    rw [hd, hk] at HM
    obtain rfl := HM.out
    clear HM
    obtain ⟨hn0, hn1, hn2, hn3, hn4, hn5, hnf⟩ := cells6 Q5.out
    have hgl := blk_lt Q5.out
    go_wp2_with fail
    go_at_call 6
    refine (awake_any _).mono ?_
    rintro e w5 ⟨rfl, B5⟩
    have Q6 := Aside0.mk (blk_below Q5.out B5)
    have E6 := Aside0.mk (E5.out.trans (B5.mono E5.out.size))
    have D6 := Aside0.mk (D5.out.below B5)
    clear hn0 hn1 hn2 hn3 hn4 hn5 hnf hgl B5 Q5 E5 D5
    obtain ⟨hn0, hn1, hn2, hn3, hn4, hn5, hnf⟩ := cells6 Q6.out
    have hgl := blk_lt Q6.out
    go_wp2_with fail
    go_at_call 10
    refine (sent_nil s y _).mono ?_
    rintro e w6 ⟨rfl, B6⟩
    have Q7 := Aside0.mk (blk_below Q6.out B6)
    have E7 := Aside0.mk (E6.out.trans (B6.mono E6.out.size))
    have D7 := Aside0.mk (D6.out.below B6)
    clear hn0 hn1 hn2 hn3 hn4 hn5 hnf hgl B6 Q6 E6 D6
    obtain ⟨hn0, hn1, hn2, hn3, hn4, hn5, hnf⟩ := cells6 Q7.out
    have hgl := blk_lt Q7.out
    go_wp2_with fail
    go_at_call 9
    refine (trips_nil _).mono ?_
    rintro e w7 ⟨rfl, rfl⟩
    go_wp2_with fail
    go_at_call 10
    refine (sent_cart s y _ D7.out (Nat.lt_of_sub_eq_succ rfl)).mono ?_
    rintro e w8 ⟨rfl, B8⟩
    rw [HC1.out]
    have Q9 := Aside0.mk (blk_below Q7.out B8)
    have E9 := Aside0.mk (E7.out.trans (B8.mono E7.out.size))
    have D9 := Aside0.mk (D7.out.below B8)
    clear hn0 hn1 hn2 hn3 hn4 hn5 hnf hgl B8 Q7 E7 D7
    obtain ⟨hn0, hn1, hn2, hn3, hn4, hn5, hnf⟩ := cells6 Q9.out
    have hgl := blk_lt Q9.out
    go_wp2_with fail
    go_at_call 9
    refine (trips_cart _ D9.out (Nat.lt_of_sub_eq_succ rfl)).mono ?_
    rintro e w9 ⟨v9, rfl, hrow, B9⟩
    obtain ⟨A9, c9, rfl⟩ := row_form hrow
    rw [HC2.out]
    have E10 := Aside0.mk (E9.out.trans (B9.mono E9.out.size))
    clear hrow B9 Q9 E9 D9
    go_wp2_with fail
    go_ret
    exact ⟨by rfl, E10.out⟩
end Go.Proofs.Ytmenfodphooacaa
