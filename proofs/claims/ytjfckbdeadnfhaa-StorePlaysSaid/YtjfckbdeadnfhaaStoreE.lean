/- StoreNil: what isn't asked of a store is passed over; a nil store has nothing. -/
import Derived.Test.YtjfckbdeadnfhaaStoreD
namespace Go.Proofs.Ytjfckbdeadnfhaa
open Go.RowKit Go.Maps Go.Proofs.YtjfckbdeadnfhaaW.PrintWords
set_option linter.unusedVariables false

/-- A row of numbers that came in. -/
structure RowIn (k : IntKind) (w : World) (a : Option Addr) (len : Nat) (zs : List Int) : Prop where
  long : zs.length = len
  wf : ∀ n ∈ zs, (Lit.int k n).wf = true
  cell : ∀ i, i < len → ∃ x, a = some x ∧ w.cell? (x.add i) = some (.int k (zs.getD i 0))
theorem RowIn.at {k : IntKind} {w : World} {a : Option Addr} {len : Nat} {zs : List Int} (h : RowIn k w a len zs) {w' : World} (hb : Below w.heap.size w w') (i : Nat) (hi : i < len) : ∃ x, a = some x ∧ w'.cell? (x.add i) = some (.int k (zs.getD i 0)) := by
  obtain ⟨x, h1, h2⟩ := h.cell i hi
  refine ⟨x, h1, ?_⟩
  rw [hb.cell (World.block_lt_of_cell? w _ h2)]
  exact h2
theorem RowIn.wf_at {k : IntKind} {w : World} {a : Option Addr} {len : Nat} {zs : List Int} (h : RowIn k w a len zs) (i : Nat) (hi : i < len) : (Lit.int k (zs.getD i 0)).wf = true :=
  h.wf _ (by rw [List.getD_eq_getElem?_getD, List.getElem?_eq_getElem (by rw [h.long]; exact hi)]; exact List.getElem_mem _)

abbrev z6 : Obj := .cells #[.int .u8 0, .int .i64 0, .int .i64 0, .int .i64 0, .int .i64 0, .int .u8 0] 27
/-- Hear at a store, whatever is asked. -/
theorem hear_all {base c m n : Nat} {f : Int → Int → Option Int} {A : Int → Int → Bool} {S : Nat → Prop} (k s y t a d v : Int) (w : World) (hs : (Lit.int .i64 s).wf = true) (hy : (Lit.int .i64 y).wf = true) (h : IsStore w base c f A m n S) (hn : n < 900) (b : Bool) (hb : b = (d == 0 && (k == 3 || k == 4))) (A' : Int → Int → Bool) (hA' : A' = if b then hA f A k s y v else A) :
    Calls Try.prog 9 #[.pointer (some ⟨c, 0, none⟩), nt k s y t a d, .int .u8 v] w fun e w' => ∃ z0 z1 z2 z3 z4 z5 f' m', e = .returned (.tuple #[nt z0 z1 z2 z3 z4 z5, .bool b]) ∧ IsStore w' base c f' A' m' (n + 1) S ∧ Fr w w' S := by
  by_cases hq : d = 0 ∧ (k = 3 ∨ k = 4)
  · obtain ⟨rfl, hk⟩ := hq
    have hb : b = true := by rw [hb]; rcases hk with rfl | rfl <;> rfl
    subst hb
    subst hA'
    refine (hear_store k s y t a v w hk hs hy h hn).mono fun e w' ⟨he, h1, h2⟩ => ?_
    exact ⟨_, _, _, _, _, _, _, _, he, h1, h2⟩
  · have hb : b = false := by rw [hb]; simp; omega
    subst hb
    subst hA'
    have hq' : (some (⟨c, 0, none⟩ : Addr)) = none ∨ ((some (⟨c, 0, none⟩ : Addr)).isSome ∧ (d != 0) = true) ∨ ((some (⟨c, 0, none⟩ : Addr)).isSome ∧ (d != 0) = false ∧ (k != 3) = true ∧ (k != 4) = true) := by
      simp; omega
    refine (hear_not _ k s y t a d v w hq').mono fun e w' ⟨he, hB⟩ => ?_
    have k0 := h.below hB
    refine ⟨_, _, _, _, _, _, f, m, he, ⟨?_, k0.lo, k0.hi⟩, Fr.of_below hB S⟩
    obtain ⟨bm, ba, D1, D2, h0, h1, h2, h3, h4, h5, h6, h7, h8⟩ := k0.ex
    exact ⟨bm, ba, D1, D2, h0, h1, h2.mono (Nat.le_succ _), h3.mono (Nat.le_succ _), h4, h5, h6, h7, h8⟩

set_option maxHeartbeats 8000000 in
theorem nil_any (k s y t a d v : Int) (w : World) (hs : (Lit.int .i64 s).wf = true) (hy : (Lit.int .i64 y).wf = true) :
    Calls Try.prog 5 #[nt k s y t a d, .int .u8 v] w fun e w' => e = .returned (.bool true) ∧ Below w.heap.size w w' := by
  have HS := Aside0.mk hs
  have HY := Aside0.mk hy
  clear hs hy
  obtain ⟨m, hm⟩ : ∃ m, m = (d == 0 && (k == 3 || k == 4)) := ⟨_, rfl⟩
  have HM := Aside0.mk hm
  clear hm
  go_enter Try.func5, Try.ntmps5
  go_wp2_with fail
  go_at_call 9
  have q0 := blk_new w (bx6 k s y t a d)
  have B0 := below_alloc (Below.refl w.heap.size w) (bx6 k s y t a d)
  obtain ⟨g, hg⟩ : ∃ g, g = w.heap.size := ⟨_, rfl⟩
  have HG := Aside0.mk hg
  rw [← hg] at q0 ⊢
  obtain ⟨W, hW⟩ : ∃ W, W = w.alloc (bx6 k s y t a d) := ⟨_, rfl⟩
  rw [← hW] at q0 B0
  rw [show w.alloc (.cells #[.int .u8 k, .int .i64 s, .int .i64 y, .int .i64 t, .int .i64 a, .int .u8 d] 27) = W from hW.symm]
  clear hW hg
  refine (hear_not none k s y t a d v W (.inl rfl)).mono ?_
  rintro e w1 ⟨rfl, B1⟩
  have q1 := blk_below q0 B1
  have C1 := B0.trans (B1.mono B0.size)
  clear q0 B0 B1
  clear W
  have hgl := blk_lt q1
  obtain ⟨hn0, hn1, hn2, hn3, hn4, hn5, hnf⟩ := cells6 q1
  go_wp2_with fail
  go_at_call 8
  have q2 := blk_alloc q1 z6
  have C2 := below_alloc C1 z6
  obtain ⟨W, hW⟩ : ∃ W, W = w1.alloc z6 := ⟨_, rfl⟩
  rw [← hW] at q2 C2
  rw [show w1.alloc (.cells #[.int .u8 0, .int .i64 0, .int .i64 0, .int .i64 0, .int .i64 0, .int .u8 0] 27) = W from hW.symm]
  clear hW q1 C1 hgl hn0 hn1 hn2 hn3 hn4 hn5 hnf
  refine (new_store (base := W.heap.size) W (Nat.le_refl _)).mono ?_
  rintro e w2 ⟨c, S, rfl, HC, hB, hS⟩
  have q3 := blk_below q2 hB
  have C3 := C2.trans (hB.mono C2.size)
  have nS : ¬ S g := fun h => by have := hS _ h; have := blk_lt q2; omega
  have hS' : ∀ i, S i → w.heap.size ≤ i := fun i h => Nat.le_trans C2.size (hS i h)
  obtain ⟨base, hbase⟩ : ∃ b, b = W.heap.size := ⟨_, rfl⟩
  have hbw : base ≤ w2.heap.size := by rw [hbase]; exact hB.size
  rw [← hbase] at HC
  clear hbase q2 C2 hB hS
  clear W
  have hgl := blk_lt q3
  obtain ⟨hn0, hn1, hn2, hn3, hn4, hn5, hnf⟩ := cells6 q3
  go_wp2_with fail
  go_at_call 9
  obtain ⟨A', hA'⟩ : ∃ A', A' = if m = true then hA (fun _ _ => none) (fun _ _ => false) k s y v else (fun _ _ => false) := ⟨_, rfl⟩
  have HC1 : Aside0 (A' s y = (m && k == 3 && v == 1)) := ⟨by
    rw [hA']
    cases hm : m with
    | false => simp
    | true =>
      have := HM.out
      rw [hm] at this
      by_cases hk4 : k = 4
      · subst hk4; simp [hA, updA]
      · by_cases hv : v = 1
        · subst hv; have hk3 : k = 3 := by simp at this; omega
          subst hk3; simp [hA, updA]
        · simp [hA, hk4, hv]⟩
  refine (hear_all k s y t a d v w2 HS.out HY.out HC (by omega) m HM.out A' hA').mono ?_
  rintro e w4 ⟨y0, y1, y2, y3, y4, y5, f', m', rfl, HC', F'⟩
  have q4 := F'.at q3 nS
  have C4 : Below w.heap.size w w4 := C3.trans (F'.below C3.size hS')
  have HCC := Aside0.mk HC'
  clear q3 C3 F' HC hS' nS hgl hn0 hn1 hn2 hn3 hn4 hn5 hnf hbw HC'
  clear w2
  obtain ⟨hn0, hn1, hn2, hn3, hn4, hn5, hnf⟩ := cells6 q4
  have hgl := blk_lt q4
  have C5 := below_alloc C4 (bx6 y0 y1 y2 y3 y4 y5)
  have D5 := Aside0.mk (HCC.out.alloc (bx6 y0 y1 y2 y3 y4 y5))
  clear hA'
  have q5 := blk_alloc q4 (bx6 y0 y1 y2 y3 y4 y5)
  have Q5 := Aside0.mk q5
  have E5 := Aside0.mk C5
  clear C5 q5 C4 HCC
  clear q4 hgl hn0 hn1 hn2 hn3 hn4 hn5 hnf
  cases hd : (d == 0) <;> cases hk : (k == 3) <;> cases hk4 : (k == 4) <;> cases hv : (v == 1)
  all_goals
    rw [hd, hk, hk4] at HM
    obtain rfl := HM.out
    have h1 := HC1.out
    rw [hk, hv] at h1
    have HC2 := Aside0.mk h1
    clear HM h1 HC1
    obtain ⟨hn0, hn1, hn2, hn3, hn4, hn5, hnf⟩ := cells6 Q5.out
    have hgl := blk_lt Q5.out
    go_wp2_with fail
    go_at_call 7
    refine (awake_any _).mono ?_
    rintro e w5 ⟨rfl, B5⟩
    have Q6 := Aside0.mk (blk_below Q5.out B5)
    have E6 := Aside0.mk (E5.out.trans (B5.mono E5.out.size))
    have D6 := Aside0.mk (D5.out.below B5)
    clear hn0 hn1 hn2 hn3 hn4 hn5 hnf hgl B5 Q5 E5 D5
    obtain ⟨hn0, hn1, hn2, hn3, hn4, hn5, hnf⟩ := cells6 Q6.out
    have hgl := blk_lt Q6.out
    go_wp2_with fail
    go_at_call 10
    refine (aside_nil s y _).mono ?_
    rintro e w6 ⟨rfl, rfl⟩
    go_wp2_with fail
    go_at_call 11
    refine (count_nil _).mono ?_
    rintro e w7 ⟨rfl, rfl⟩
    go_wp2_with fail
    go_at_call 10
    refine (aside_store s y _ HS.out HY.out D6.out).mono ?_
    rintro e w8 ⟨rfl, rfl⟩
    rw [HC2.out]
    go_wp2_with fail
    go_ret
    exact ⟨by rfl, E6.out⟩
end Go.Proofs.Ytjfckbdeadnfhaa
