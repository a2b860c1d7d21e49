/- The cart's Hear, where something is sent. -/
import Derived.Test.YtmenfodphooacaaCartA
import Derived.Deep.RegionLawGrows
namespace Go.Proofs.Ytmenfodphooacaa
open Go.RowKit Go.Maps Go.Proofs.YtmenfodphooacaaW.PrintWords
set_option linter.unusedVariables false
theorem step_append_at {P : Program} {ops : Array Oper} {o : Oper} {a : Act} {w : World} {K : Act → World → Prop} {Q : Exit → Act → World → Prop} {E : Prop}
    (hgd : o.guard = none) (s x : Operand) (t : TypeId) (ho : o.op = .call { callee := .builtin .append, args := #[s, x], argTypes := #[t, t] })
    (base : Nat) (e : TypeId) (i : TypeInfo) (z : Value) (size bytes : Nat) (ht : P.underlying t = some (.slice e)) (hi : P.info? e = some i) (hz : i.zero = some z)
    (hsize : i.size = size) (hby : i.bytes = bytes) (hzs : z.cells.size = size) (hsz : 0 < size)
    (v : Value) (n : Nat) (xs : List Value) (hs : a.eval s = v) (hown : w.ownsRow base e size v n xs)
    (ad : Addr) (m c : Nat) (news : List Value) (hx : a.eval x = .slice (some ad) m c) (hl : news.length = m * size) (hnews : ∀ j u, news[j]? = some u → w.cell? (ad.add j) = some u) (h1 : ∀ u ∈ news, u.oneCell' = true)
    (h63 : n + m ≤ maxLen) (hbytes : (n + m) * bytes ≤ 140737488355328) (hbase : base ≤ w.heap.size)
    (h : ∀ v' w', w'.ownsRow base e size v' (n + m) (xs ++ news) → w.grownBy w' v.ownBlock → (v'.ownBlock = v.ownBlock ∨ v'.ownBlock = some w.heap.size) → K (a.put o.dst v') w') :
    if Region.wanted o (yielded ops a.tmps) = true then Oper.wp P o a w K Q else E := by
  have hw : Region.wanted o (yielded ops a.tmps) = true := by simp [Region.wanted, hgd]
  rw [if_pos hw]
  obtain ⟨v', w', hr, h2, h3, h4, h5⟩ := run_append_own_at (P := P) w base t o.type e i z size bytes ht hi hz hsize hby hzs hsz v n xs hown ad m c news hl hnews h1 h63 hbytes hbase
  unfold Oper.wp execOp
  simp only [ho, resolve, invoke, builtin, Sem.run_bind, Sem.run_pure, Result.andThen_ok, List.map_toArray, List.map_cons, List.map_nil, hs, hx, hr]
  exact h v' w' h2 h3 h5
theorem row_lt {w : World} {base : Nat} {e : TypeId} {size : Nat} {v : Value} {n : Nat} {xs : List Value} (h : w.ownsRow base e size v n xs) : ∀ k, some k = v.ownBlock → k < w.heap.size := by
  rintro k hk
  obtain ⟨_, (⟨rfl, _⟩ | ⟨g, cap, cur, rfl, _, hg, _⟩)⟩ := h
  · simp [Value.ownBlock] at hk
  · simp [Value.ownBlock] at hk; subst hk; exact blk_lt hg
theorem row_ne {w : World} {base : Nat} {e : TypeId} {size : Nat} {v : Value} {n : Nat} {xs : List Value} (h : w.ownsRow base e size v n xs) {c : Nat} {cs : Array Value} {t : TypeId} (hc : w.heap[c]? = some (.cells cs t (0, 0))) (ht : t ≠ e) : some c ≠ v.ownBlock := by
  intro hk
  obtain ⟨_, (⟨rfl, _⟩ | ⟨g, cap, cur, rfl, _, hg, _⟩)⟩ := h
  · simp [Value.ownBlock] at hk
  · simp [Value.ownBlock] at hk; subst hk; rw [hc] at hg; injection hg with hg; injection hg with _ h2; exact ht h2
theorem row_map {H : Type} {w : World} {P : Program} {k : TypeId} {R : Value → Option (DataW H × List MemPlace)} {b m : Nat} {D : DataW H} {base : Nat} {e : TypeId} {size : Nat} {v : Value} {n : Nat} {xs : List Value} (h : w.ownsRow base e size v n xs) (hm : w.ownsMap P k R b m D) : some b ≠ v.ownBlock := by
  intro hk
  obtain ⟨es, cl, h1, _⟩ := hm
  obtain ⟨_, (⟨rfl, _⟩ | ⟨g, cap, cur, rfl, _, hg, _⟩)⟩ := h
  · simp [Value.ownBlock] at hk
  · simp [Value.ownBlock] at hk; subst hk; rw [h1] at hg; cases hg
theorem row_form {w : World} {base : Nat} {e : TypeId} {size : Nat} {v : Value} {n : Nat} {xs : List Value} (h : w.ownsRow base e size v n xs) : ∃ A c, v = .slice A n c := by
  obtain ⟨_, (⟨rfl, rfl⟩ | ⟨g, cap, cur, rfl, _⟩)⟩ := h
  · exact ⟨_, _, rfl⟩
  · exact ⟨_, _, rfl⟩
theorem row_set {w : World} {base : Nat} {e : TypeId} {size : Nat} {v : Value} {n : Nat} {xs : List Value} (h : w.ownsRow base e size v n xs) {p : Addr} (hp : some p.block ≠ v.ownBlock) (u : Value) : (w.setCell p u).ownsRow base e size v n xs := by
  obtain ⟨h0, (⟨rfl, rfl⟩ | ⟨g, cap, cur, rfl, h1, h2, h3⟩)⟩ := h
  · exact ⟨h0, .inl ⟨rfl, rfl⟩⟩
  · exact ⟨h0, .inr ⟨g, cap, cur, rfl, h1, (Below.heap_setCell w p u g (fun e => hp (by simp [Value.ownBlock, e]))).trans h2, h3⟩⟩
theorem row_of {w w' : World} {base : Nat} {e : TypeId} {size : Nat} {v : Value} {n : Nat} {xs : List Value} (h : w.ownsRow base e size v n xs) (hk : ∀ g, some g = v.ownBlock → w'.heap[g]? = w.heap[g]?) : w'.ownsRow base e size v n xs := by
  obtain ⟨h0, (⟨rfl, rfl⟩ | ⟨g, cap, cur, rfl, h1, h2, h3⟩)⟩ := h
  · exact ⟨h0, .inl ⟨rfl, rfl⟩⟩
  · exact ⟨h0, .inr ⟨g, cap, cur, rfl, h1, (hk g (by simp [Value.ownBlock])).trans h2, h3⟩⟩
theorem map_of {H : Type} {w w' : World} {P : Program} {k : TypeId} {R : Value → Option (DataW H × List MemPlace)} {b m : Nat} {D : DataW H} (h : w.ownsMap P k R b m D) (hk : w'.heap[b]? = w.heap[b]?) : w'.ownsMap P k R b m D := by
  obtain ⟨es, cl, h1, h2⟩ := h
  exact ⟨es, cl, hk.trans h1, h2⟩
theorem row7 {w : World} {base : Nat} {e : TypeId} {size : Nat} {v : Value} {n : Nat} {xs : List Value} (h : w.ownsRow base e size v n xs) {g g' : Nat} (hg : some g ≠ v.ownBlock) (hg' : some g' ≠ v.ownBlock) (x0 x1 x2 x3 x4 x5 x6 : Value) : (((((((w.setCell ⟨g, 5, none⟩ x0).setCell ⟨g', 0, none⟩ x1).setCell ⟨g', 1, none⟩ x2).setCell ⟨g', 2, none⟩ x3).setCell ⟨g', 3, none⟩ x4).setCell ⟨g', 4, none⟩ x5).setCell ⟨g', 5, none⟩ x6).ownsRow base e size v n xs :=
  row_set (row_set (row_set (row_set (row_set (row_set (row_set h (p := ⟨g, 5, none⟩) hg x0) (p := ⟨g', 0, none⟩) hg' x1) (p := ⟨g', 1, none⟩) hg' x2) (p := ⟨g', 2, none⟩) hg' x3) (p := ⟨g', 3, none⟩) hg' x4) (p := ⟨g', 4, none⟩) hg' x5) (p := ⟨g', 5, none⟩) hg' x6
theorem blk7 {w : World} {b : Nat} {cs : Array Value} {t : TypeId} (h : w.heap[b]? = some (.cells cs t (0, 0))) {g g' : Nat} (hg : b ≠ g) (hg' : b ≠ g') (x0 x1 x2 x3 x4 x5 x6 : Value) : (((((((w.setCell ⟨g, 5, none⟩ x0).setCell ⟨g', 0, none⟩ x1).setCell ⟨g', 1, none⟩ x2).setCell ⟨g', 2, none⟩ x3).setCell ⟨g', 3, none⟩ x4).setCell ⟨g', 4, none⟩ x5).setCell ⟨g', 5, none⟩ x6).heap[b]? = some (.cells cs t (0, 0)) :=
  blk_far (blk_far (blk_far (blk_far (blk_far (blk_far (blk_far h (p := ⟨g, 5, none⟩) hg x0) (p := ⟨g', 0, none⟩) hg' x1) (p := ⟨g', 1, none⟩) hg' x2) (p := ⟨g', 2, none⟩) hg' x3) (p := ⟨g', 3, none⟩) hg' x4) (p := ⟨g', 4, none⟩) hg' x5) (p := ⟨g', 5, none⟩) hg' x6
theorem one2 (s y : Int) : ∀ u ∈ [Value.int .i64 s, Value.int .i64 y], u.oneCell' = true := by simp [Value.oneCell']
theorem info32 : (Try.prog.info? 32).map (fun i => (i.zero, i.size, i.bytes)) = some (some (.agg #[.int .i64 0, .int .i64 0]), 2, 16) := by kernel_rfl
theorem cell_two_new2 (w : World) (x y : Value) (t : TypeId) : ∀ j u, [x, y][j]? = some u → (w.alloc (.cells #[x, y] t)).cell? ((⟨w.heap.size, 0, none⟩ : Addr).add j) = some u := by
  intro j u hj
  match j, hj with
  | 0, hj => simp at hj; subst hj; simp [Addr.add]
  | 1, hj => simp at hj; subst hj; simp [Addr.add]
set_option maxHeartbeats 4000000 in
theorem hear_yes {H : Type} (c bm n : Nat) (D : DataW H) (lv : Value) (k s y t a d v : Int) (kl : Lit) (w : World) (hd : (d != 0) = false) (hk : (k != 5) = false) (hb : w.heap[c]? = some (.cells #[.map (some bm), lv] 42 (0, 0)))
    (hown : w.ownsMap Try.prog 32 (plainElem Try.prog 5) bm n D) (hkey : keyOf Try.prog 32 (.agg #[.int .i64 s, .int .i64 y]) = some kl) (hh : Maps.has D kl = false) (hv1 : (v == 1) = true) (l : Nat) (xs : List Value) (base : Nat) (hrow : w.ownsRow base 32 2 lv l xs) (hbase : base ≤ w.heap.size) (hl : l < 1000) (hnm : n < maxLen) :
    Calls Try.prog 8 #[.pointer (some ⟨c, 0, none⟩), nt k s y t a d, .int .u8 v] w fun e w' => e = .returned (.tuple #[nt k s y t a 1, .bool true]) ∧ ∃ lv', w'.heap[c]? = some (.cells #[.map (some bm), lv'] 42 (0, 0)) ∧ w'.ownsMap Try.prog 32 (plainElem Try.prog 5) bm (n + 1) (D.put kl (.lit (.int .u8 1))) ∧
      w'.ownsRow base 32 2 lv' (l + 1) (xs ++ [.int .i64 s, .int .i64 y]) ∧ (lv'.ownBlock = lv.ownBlock ∨ ∃ b, lv'.ownBlock = some b ∧ w.heap.size ≤ b) ∧ Fr w w' (fun i => i = bm ∨ i = c ∨ some i = lv.ownBlock) := by
  have c0 : w.cell? ⟨c, 0, none⟩ = some (.map (some bm)) := (blk_cell hb 0).trans rfl
  have hlt := blk_lt hb
  have hrlt0 := row_lt hrow
  go_enter Try.func8, Try.ntmps8
  go_wp2
  obtain ⟨W, hWd⟩ : ∃ W, W = (((w.alloc (Obj.cells #[Value.int IntKind.u8 k, Value.int IntKind.i64 s, Value.int IntKind.i64 y, Value.int IntKind.i64 t, Value.int IntKind.i64 a, Value.int IntKind.u8 d] 30)).alloc (Obj.cells #[Value.int IntKind.u8 0, Value.int IntKind.i64 0, Value.int IntKind.i64 0, Value.int IntKind.i64 0, Value.int IntKind.i64 0, Value.int IntKind.u8 0] 30)).alloc (Obj.cells #[Value.int IntKind.i64 s, Value.int IntKind.i64 y] 32)) := ⟨_, rfl⟩
  rw [← hWd]
  have hownW : W.ownsMap Try.prog 32 (plainElem Try.prog 5) bm n D := by rw [hWd]; exact ((hown.alloc _).alloc _).alloc _
  have hbW : W.heap[c]? = some (.cells #[.map (some bm), lv] 42 (0, 0)) := by rw [hWd]; exact blk_alloc (blk_alloc (blk_alloc hb _) _) _
  have hBW : Below w.heap.size w W := by rw [hWd]; repeat (first | exact Below.refl _ _ | (refine Below.alloc ?_ (by simp; try omega) _))
  obtain ⟨g1, hg1⟩ : ∃ g, g = w.heap.size := ⟨_, rfl⟩
  have hn : W.heap[g1]? = some (.cells #[.int .u8 k, .int .i64 s, .int .i64 y, .int .i64 t, .int .i64 a, .int .u8 d] 30 (0, 0)) := by rw [hWd, hg1]; exact blk_alloc (blk_alloc (blk_new _ _) _) _
  have hr : W.heap[g1 + 1]? = some (.cells #[.int .u8 0, .int .i64 0, .int .i64 0, .int .i64 0, .int .i64 0, .int .u8 0] 30 (0, 0)) := by rw [hWd, hg1]; exact blk_alloc (heap_alloc2_new w _ _) _
  have hx : W.heap[g1 + 1 + 1]? = some (.cells #[.int .i64 s, .int .i64 y] 32 (0, 0)) := by rw [hWd, hg1]; simpa using blk_new ((w.alloc (Obj.cells #[Value.int IntKind.u8 k, Value.int IntKind.i64 s, Value.int IntKind.i64 y, Value.int IntKind.i64 t, Value.int IntKind.i64 a, Value.int IntKind.u8 d] 30)).alloc (Obj.cells #[Value.int IntKind.u8 0, Value.int IntKind.i64 0, Value.int IntKind.i64 0, Value.int IntKind.i64 0, Value.int IntKind.i64 0, Value.int IntKind.u8 0] 30)) (Obj.cells #[Value.int IntKind.i64 s, Value.int IntKind.i64 y] 32)
  rw [← hg1] at hBW hrlt0 hbase ⊢
  have hlW : W.heap.size = g1 + 1 + 1 + 1 := by rw [hWd, hg1]; simp
  have hlg : c < g1 := by rw [hg1]; exact hlt
  have HG := Aside0.mk hg1
  have hrowW : W.ownsRow base 32 2 lv l xs := by rw [hWd]; exact ((hrow.alloc _).alloc _).alloc _
  clear hWd hown hb c0 hlt hg1 hrow
  obtain ⟨hn0, hn1, hn2, hn3, hn4, hn5, hnf⟩ := cells6 hn
  obtain ⟨hr0, hr1, hr2, hr3, hr4, hr5, hrf⟩ := cells6 hr
  obtain ⟨hx0, hx1, hxf⟩ := cells2 hx
  obtain ⟨hc0, hc1, hcf⟩ := cells2 hbW
  have hrunN : ∀ nq, (Instr.lookup 40 (.map (some bm)) (.agg #[.int .i64 s, .int .i64 y]) true).run Try.prog (W.drewN nq) = .ok (.tuple #[.int .u8 0, .bool false]) (W.drewN nq) := by
    intro nq
    have hownN : (W.drewN nq).ownsMap Try.prog 32 (plainElem Try.prog 5) bm n D := hownW
    obtain ⟨v1, ps, hrun, hv⟩ := hownN.look_ok lawK Try.underlying40 (zero5 _) (plainElem_int Try.underlying5 (by decide)) hkey
    rw [atKey_of_not_has hh] at hv
    obtain ⟨u', rfl, hu', _⟩ := plainElem_int_inv Try.underlying5 hv
    obtain rfl : (0 : Int) = u' := by simpa using congrArg Prod.fst hu'
    rw [hh] at hrun
    exact hrun
  have hrun0 := hrunN 0
  have HK := Aside0.mk hkey
  clear hh hkey
  go_quiet (fail)
  clear hrunN hrun0
  obtain ⟨V, hV⟩ : ∃ V, V = W.drewN nq := ⟨_, rfl⟩
  rw [← hV]
  have hVW : V.heap = W.heap := by rw [hV]; rfl
  have hBV : Below g1 w V := by rw [hV]; exact pw_below_drewN2 hBW nq
  have hrlt : ∀ k, some k = lv.ownBlock → k < g1 := fun k hk => hrlt0 k hk
  have hownV : V.ownsMap Try.prog 32 (plainElem Try.prog 5) bm n D := by rw [hV]; exact hownW
  have hrowV : V.ownsRow base 32 2 lv l xs := by rw [hV]; exact hrowW
  rw [← hVW] at hn hr hx hbW hlW
  clear hn0 hn1 hn2 hn3 hn4 hn5 hnf hr0 hr1 hr2 hr3 hr4 hr5 hrf hx0 hx1 hxf hc0 hc1 hcf hV hVW hBW hownW hrowW
  clear W
  obtain ⟨hn0, hn1, hn2, hn3, hn4, hn5, hnf⟩ := cells6 hn
  obtain ⟨hr0, hr1, hr2, hr3, hr4, hr5, hrf⟩ := cells6 hr
  obtain ⟨hx0, hx1, hxf⟩ := cells2 hx
  obtain ⟨hc0, hc1, hcf⟩ := cells2 hbW
  obtain ⟨i0, hi, hz0, hz1, hz2⟩ := info_parts info32
  have HM1 : Aside0 (l + 1 ≤ maxLen) := ⟨by unfold maxLen; omega⟩
  have HM2 : Aside0 ((l + 1) * 16 ≤ 140737488355328) := ⟨by omega⟩
  have HM3 : Aside0 (base ≤ (V.alloc (.cells #[.int .i64 s, .int .i64 y] 32)).heap.size) := ⟨by simp; omega⟩
  have HC : Aside0 (c < (V.alloc (.cells #[.int .i64 s, .int .i64 y] 32)).heap.size) := ⟨by simp; omega⟩
  have HL := Aside0.mk hlW
  have HRL := Aside0.mk hrlt
  have hcl := blk_lt hbW
  clear hlW hrlt
  have q1 := Aside0.mk (row_ne hrowV hbW (by decide))
  have q2 := Aside0.mk (row_ne hrowV hn (by decide))
  have q3 := Aside0.mk (row_ne hrowV hr (by decide))
  have q4 : Aside0 (some (g1 + 1 + 1) ≠ lv.ownBlock) := ⟨fun e => by have := HRL.out _ e; omega⟩
  have q5 := Aside0.mk (row_map hrowV hownV)
  go_wp2
  go_region_law (refine step_append_at rfl (.tmp 46) (.tmp 48) 28 rfl base 32 i0 _ 2 16 Try.underlying28 hi hz0 hz1 hz2 rfl Nat.zero_lt_two lv l xs rfl (show World.ownsRow _ base 32 2 lv l xs from hrowV.alloc (.cells #[.int .i64 s, .int .i64 y] 32)) ⟨_, 0, none⟩ 1 1 [.int .i64 s, .int .i64 y] rfl rfl (fun j u hj => cell_two_new2 V (.int .i64 s) (.int .i64 y) 32 j u hj) (one2 s y) HM1.out HM2.out HM3.out ?_; intro lv' w1 hrow1 hg1 hat1; obtain ⟨A', c', rfl⟩ := row_form hrow1; have hb1 : w1.heap[c]? = some (.cells #[.map (some bm), lv] 42 (0, 0)) := (hg1.block c HC.out q1.out).trans (blk_alloc hbW _); clear hn0 hn1 hn2 hn3 hn4 hn5 hnf hr0 hr1 hr2 hr3 hr4 hr5 hrf hx0 hx1 hxf hc0 hc1 hcf; obtain ⟨hc0, hc1, hcf⟩ := cells2 hb1)
  all_goals
    have a0 := (hg1.block g1 (by have := blk_lt hn; simp; omega) q2.out).trans (blk_alloc hn _)
    have a1 := (hg1.block (g1 + 1) (by have := blk_lt hr; simp; omega) q3.out).trans (blk_alloc hr _)
    have a2 := (hg1.block (g1 + 1 + 1) (by have := blk_lt hx; simp; omega) q4.out).trans (blk_alloc hx _)
    have a3 : w1.ownsMap Try.prog 32 (plainElem Try.prog 5) bm n D := map_of (hownV.alloc (.cells #[.int .i64 s, .int .i64 y] 32)) (hg1.block bm (by have := (hownV.alloc (.cells #[.int .i64 s, .int .i64 y] 32)).lt; exact this) q5.out)
    have a4 := blk_put hb1 1 (.slice A' (l + 1) c') rfl
    have a5 := row_ne hrow1 hb1 (by decide)
    obtain ⟨U, hU⟩ : ∃ U, U = w1.setCell ⟨c, 1, none⟩ (.slice A' (l + 1) c') := ⟨_, rfl⟩
    have nb : bm < g1 := by
      have h2 := hownV.lt
      have h3 := HL.out
      obtain ⟨es, cl, h1, _⟩ := hownV
      have h3 : ¬ (bm = g1 ∨ bm = g1 + 1 ∨ bm = g1 + 1 + 1) := by
        rintro (e | e | e) <;> rw [e] at h1
        · rw [hn] at h1; cases h1
        · rw [hr] at h1; cases h1
        · rw [hx] at h1; cases h1
      omega
    have nc : c ≠ bm := fun e => ne_map hownV hbW (by rw [e])
    have b0 := blk_far (p := ⟨c, 1, none⟩) a0 (show g1 ≠ c by omega) (.slice A' (l + 1) c')
    rw [← hU] at b0
    have b1 := blk_far (p := ⟨c, 1, none⟩) a1 (show g1 + 1 ≠ c by omega) (.slice A' (l + 1) c')
    rw [← hU] at b1
    have b2 := blk_far (p := ⟨c, 1, none⟩) a2 (show g1 + 1 + 1 ≠ c by omega) (.slice A' (l + 1) c')
    rw [← hU] at b2
    have b3 : U.ownsMap Try.prog 32 (plainElem Try.prog 5) bm n D := by rw [hU]; exact a3.setCell (a := ⟨c, 1, none⟩) (fun e => nc e.symm) _
    have b4 : U.heap[c]? = some (.cells #[.map (some bm), .slice A' (l + 1) c'] 42 (0, 0)) := by rw [hU]; exact a4
    have b5 : U.ownsRow base 32 2 (.slice A' (l + 1) c') (l + 1) (xs ++ [.int .i64 s, .int .i64 y]) := by rw [hU]; exact row_set hrow1 a5 _
    have f2 : Fr w U (fun i => i = bm ∨ i = c ∨ some i = lv.ownBlock) := by
      rw [hU]
      have f0 : Fr w V (fun i => i = bm ∨ i = c ∨ some i = lv.ownBlock) := Fr.of_below (by rw [← HG.out]; exact hBV) _
      have f1 := f0.alloc (.cells #[.int .i64 s, .int .i64 y] 32)
      have f2 : Fr w w1 (fun i => i = bm ∨ i = c ∨ some i = lv.ownBlock) := f1.trans ⟨hg1.os, hg1.tape, hg1.output, hg1.size, fun i hi hn => hg1.block i hi (fun e => hn (.inr (.inr e)))⟩
      exact f2.set (p := ⟨c, 1, none⟩) (.inl (.inr (.inl rfl))) _
    have hat2 : (Value.slice A' (l + 1) c').ownBlock = lv.ownBlock ∨ ∃ b, (Value.slice A' (l + 1) c').ownBlock = some b ∧ w.heap.size ≤ b := hat1.imp id (fun h => ⟨_, h, by have := HL.out; have := HG.out; simp; omega⟩)
    rw [← hU]
    have HU := Aside0.mk a5
    have HF2 := Aside0.mk f2
    have HAT := Aside0.mk hat2
    clear a0 a1 a2 a3 a4 a5 hU hat1 hat2 f2 hrow1 hg1 hb1 hc0 hc1 hcf hn hr hx hbW hownV hrowV hBV hbase
    clear hcl
    clear q1 q2 q3 q4 q5 HC HM1 HM2 HM3 HL HRL
    clear w1
    go_wp2
    refine still_tail_at 6 (by kernel_rfl) (by kernel_rfl) ?_
    intro X eX bX
    have b3' : X.ownsMap Try.prog 32 (plainElem Try.prog 5) bm n D := map_of b3 (by rw [eX])
    have b5' : X.ownsRow base 32 2 (.slice A' (l + 1) c') (l + 1) (xs ++ [.int .i64 s, .int .i64 y]) := row_of b5 (fun g _ => by rw [eX])
    rw [← eX] at b0 b1 b2 b4
    have f3 := HF2.out.trans (Fr.same eX bX _)
    have HF3 := Aside0.mk f3
    clear f3 HF2 eX bX b3 b5
    clear U
    obtain ⟨hn0, hn1, hn2, hn3, hn4, hn5, hnf⟩ := cells6 b0
    obtain ⟨hr0, hr1, hr2, hr3, hr4, hr5, hrf⟩ := cells6 b1
    obtain ⟨hx0, hx1, hxf⟩ := cells2 b2
    obtain ⟨hc0, hc1, hcf⟩ := cells2 b4
    simp only [List.take_succ_cons, List.take_zero, List.drop_succ_cons, List.drop_zero]
    repeat still_step
    refine wpStill_nil ?_
    go_wp2_with (at_mapUpdate; refine wpList_mapUpdate_own _ rfl _ _ _ 40 rfl 32 5 lawK Try.underlying40 _ bm n D rfl b3' hnm _ _ _ rfl rfl HK.out _ [] (plainElem_int Try.underlying5 (by decide)) ?_; intro w1 hown1 hg1; have hn1_ := blk_grown b0 hg1 (ne_map b3' b0); have hr1_ := blk_grown b1 hg1 (ne_map b3' b1); clear hn0 hn1 hn2 hn3 hn4 hn5 hnf hr0 hr1 hr2 hr3 hr4 hr5 hrf hx0 hx1 hxf hc0 hc1 hcf; obtain ⟨hn0, hn1, hn2, hn3, hn4, hn5, hnf⟩ := cells6 hn1_; obtain ⟨hr0, hr1, hr2, hr3, hr4, hr5, hrf⟩ := cells6 hr1_)
    refine bodyPost_ret (results_ct Try.results8 _ _ (g1 + 1) 30 #[.int .u8 k, .int .i64 s, .int .i64 y, .int .i64 t, .int .i64 a, .int .u8 1] (0, 0) _ rfl ?hres Try.underlying30 rfl (by kernel_rfl)) rfl ?_
    case hres => exact put6 (blk_far hr1_ (show g1 + 1 ≠ g1 by omega) _)
    have e1 := HG.out
    subst e1
    have f4 := HF3.out.trans (b := X) (c := w1) ⟨hg1.os, hg1.tape, hg1.output, hg1.size, fun i hi hn => hg1.block i hi (fun e => hn (.inl (by injection e)))⟩
    have g4 := blk_grown b4 hg1 (ne_map b3' b4)
    have b6 := row_of b5' (fun g hg => hg1.block g (row_lt b5' g hg) (fun e => row_map b5' b3' (e.symm.trans hg)))
    have rl : ∀ g, some g = (Value.slice A' (l + 1) c').ownBlock → g ≠ w.heap.size ∧ g ≠ w.heap.size + 1 := fun g hg => ⟨fun e => row_ne b5' b0 (by decide) (by rw [← e]; exact hg), fun e => row_ne b5' b1 (by decide) (by rw [← e]; exact hg)⟩
    exact ⟨rfl, .slice A' (l + 1) c', blk7 g4 (by omega) (by omega) _ _ _ _ _ _ _, own7 hown1 (by omega) (by omega) _ _ _ _ _ _ _, row7 b6 (fun e => (rl _ e).1 rfl) (fun e => (rl _ e).2 rfl) _ _ _ _ _ _ _, HAT.out, fr7 f4 (Nat.le_refl _) (Nat.le_succ _) _ _ _ _ _ _ _⟩
end Go.Proofs.Ytmenfodphooacaa
