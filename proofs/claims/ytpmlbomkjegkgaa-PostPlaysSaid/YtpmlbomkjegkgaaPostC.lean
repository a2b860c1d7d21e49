/- Send of a post. -/
import Derived.Test.YtpmlbomkjegkgaaPostB
namespace Go.Proofs.Ytpmlbomkjegkgaa
open Go.RowKit Go.Proofs.YtpmlbomkjegkgaaW.PrintWords
set_option linter.unusedVariables false

theorem step_append_p {P : Program} {ops : Array Oper} {o : Oper} {a : Act} {w : World} {K : Act → World → Prop} {Q : Exit → Act → World → Prop} {E : Prop}
    (hgd : o.guard = none) (s x : Operand) (t : TypeId) (ho : o.op = .call { callee := .builtin .append, args := #[s, x], argTypes := #[t, t] })
    (base : Nat) (e : TypeId) (i : TypeInfo) (z : Value) (size bytes : Nat) (ht : P.underlying t = some (.slice e)) (hi : P.info? e = some i) (hz : i.zero = some z)
    (hsize : i.size = size) (hby : i.bytes = bytes) (hzs : z.cells.size = size) (hsz : 0 < size)
    (v : Value) (n : Nat) (xs : List Value) (hs : a.eval s = v) (hown : RowP w base e size v n xs)
    (ad : Addr) (m c : Nat) (news : List Value) (hx : a.eval x = .slice (some ad) m c) (hl : news.length = m * size) (hnews : ∀ j u, news[j]? = some u → w.cell? (ad.add j) = some u) (h1 : ∀ u ∈ news, u.oneCell' = true)
    (h63 : n + m ≤ maxLen) (hbytes : (n + m) * bytes ≤ 140737488355328) (hbase : base ≤ w.heap.size)
    (h : ∀ v' w', RowP w' base e size v' (n + m) (xs ++ news) → Fr w w' (fun i => some i = v.ownBlock) → (∀ k, some k = v'.ownBlock → some k = v.ownBlock ∨ w.heap.size ≤ k) → K (a.put o.dst v') w') :
    if Region.wanted o (yielded ops a.tmps) = true then Oper.wp P o a w K Q else E := by
  have hw : Region.wanted o (yielded ops a.tmps) = true := by simp [Region.wanted, hgd]
  rw [if_pos hw]
  obtain ⟨v', w', hr, h2, h3, h4⟩ := run_append_p (P := P) w base t o.type e i z size bytes ht hi hz hsize hby hzs hsz v n xs hown ad m c news hl hnews h1 h63 hbytes hbase
  unfold Oper.wp execOp
  simp only [ho, resolve, invoke, builtin, Sem.run_bind, Sem.run_pure, Result.andThen_ok, List.map_toArray, List.map_cons, List.map_nil, hs, hx, hr]
  exact h v' w' h2 h3 h4
abbrev Let := Int × Value × List Int
def flat (L : List Let) : List Value := L.flatMap fun p => [.int .u8 p.1, p.2.1]
theorem flat_len : ∀ L : List Let, (flat L).length = L.length * 2
  | [] => rfl
  | p :: L => by have := flat_len L; simp only [flat, List.flatMap_cons, List.length_append, List.length_cons, List.length_nil] at this ⊢; omega
theorem flat_app (L M : List Let) : flat (L ++ M) = flat L ++ flat M := by simp [flat]
/-- A post's letters. -/
structure IsPost (w : World) (base c : Nat) (lv : Value) (L : List Let) : Prop where
  blk : w.heap[c]? = some (.cells #[lv] 27 (0, 0))
  row : RowP w base 32 2 lv L.length (flat L)
  let_ : ∀ p ∈ L, RowP w base 5 1 p.2.1 p.2.2.length (p.2.2.map (Value.int .u8))
  lo : base ≤ c
theorem info5 : (Try.prog.info? 5).map (fun i => (i.zero, i.size, i.bytes)) = some (some (.int .u8 0), 1, 1) := by kernel_rfl
theorem info32 : (Try.prog.info? 32).map (fun i => (i.zero, i.size, i.bytes)) = some (some (.agg #[.int .u8 0, .slice none 0 0]), 2, 32) := by kernel_rfl
theorem rowP_nil (w : World) (base : Nat) (e : TypeId) (size : Nat) : RowP w base e size (.slice none 0 0) 0 [] := ⟨by simp, .inl ⟨rfl, rfl⟩⟩
theorem cell_two_new2 (w : World) (x y : Value) (t : TypeId) : ∀ j u, [x, y][j]? = some u → (w.alloc (.cells #[x, y] t)).cell? ((⟨w.heap.size, 0, none⟩ : Addr).add j) = some u := by
  intro j u hj
  match j, hj with
  | 0, hj => simp at hj; subst hj; simp [Addr.add]
  | 1, hj => simp at hj; subst hj; simp [Addr.add]
theorem one2 (t : Int) (A : Option Addr) (m c : Nat) : ∀ u ∈ [Value.int .u8 t, Value.slice A m c], u.oneCell' = true := by simp [Value.oneCell']
theorem oneB (bs : List Int) : ∀ u ∈ bs.map (Value.int .u8), u.oneCell' = true := by
  intro u hu
  obtain ⟨x, _, rfl⟩ := List.mem_map.1 hu
  rfl
theorem send_end {w w1 w2 : World} {base c m : Nat} {lv v1 v2 : Value} {L : List Let} {t : Int} {bs : List Int} {o : Obj} (hb : w.heap[c]? = some (.cells #[lv] 27 (0, 0))) (hrow : RowP w base 32 2 lv L.length (flat L))
    (hlet : ∀ p ∈ L, RowP w base 5 1 p.2.1 p.2.2.length (p.2.2.map (Value.int .u8))) (hlo : base ≤ c) (hbs : bs.length = m) (hbase : base ≤ w.heap.size) (hrow1 : RowP w1 w.heap.size 5 1 v1 m (bs.map (Value.int .u8))) (hg1 : Fr w w1 (fun i => some i = (Value.slice none 0 0).ownBlock))
    (hat1 : ∀ k, some k = v1.ownBlock → some k = (Value.slice none 0 0).ownBlock ∨ w.heap.size ≤ k) (hrow2 : RowP w2 base 32 2 v2 (L.length + 1) (flat L ++ [.int .u8 t, v1])) (hg2 : Fr (w1.alloc o) w2 (fun i => some i = lv.ownBlock))
    (hat2 : ∀ k, some k = v2.ownBlock → some k = lv.ownBlock ∨ (w1.alloc o).heap.size ≤ k) :
    IsPost (w2.setCell ⟨c, 0, none⟩ v2) base c v2 (L ++ [(t, v1, bs)]) ∧ Fr w (w2.setCell ⟨c, 0, none⟩ v2) (fun i => i = c ∨ some i = lv.ownBlock) ∧ (∀ k, some k = v2.ownBlock → some k = lv.ownBlock ∨ w.heap.size ≤ k) ∧ (∀ k, some k = v1.ownBlock → w.heap.size ≤ k) := by
  subst hbs
  have hnn : ∀ k, ¬ some k = (Value.slice none 0 0).ownBlock := by simp [Value.ownBlock]
  have F1 : Fr w (w1.alloc o) (fun i => i = c ∨ some i = lv.ownBlock) := (hg1.alloc o).mono (fun i h => absurd h (hnn i))
  have F2 := F1.trans (hg2.mono (S' := fun i => i = c ∨ some i = lv.ownBlock) (fun i h => .inr h))
  have F3 := F2.set (p := ⟨c, 0, none⟩) (.inl (.inl rfl)) v2
  have hb1 : w1.heap[c]? = some (.cells #[lv] 27 (0, 0)) := hg1.at hb (hnn c)
  have hb2 : w2.heap[c]? = some (.cells #[lv] 27 (0, 0)) := hg2.at (blk_alloc hb1 _) (hrow.ne hb (by decide))
  have hnl : ∀ {base : Nat} {v : Value} {n : Nat} {xs : List Value}, RowP w base 5 1 v n xs → ∀ k, some k = v.ownBlock → ¬ (k = c ∨ some k = lv.ownBlock) := by
    rintro base v n xs h k hk (rfl | hl)
    · exact h.ne hb (by decide) hk
    · obtain ⟨_, (⟨rfl, _⟩ | ⟨g, cap, cur, rfl, _, hg, _⟩)⟩ := hrow
      · exact hnn _ hl
      · simp [Value.ownBlock] at hl; subst hl; exact h.ne hg (by decide) hk
  have hn1 : ∀ k, some k = v1.ownBlock → w.heap.size ≤ k ∧ k < w1.heap.size := fun k hk => ⟨(hrow1.lt k hk).2, (hrow1.lt k hk).1⟩
  refine ⟨⟨blk_put hb2 0 v2 rfl, ?_, ?_, hlo⟩, F3, fun k hk => ?_, fun k hk => (hn1 k hk).1⟩
  · rw [flat_app, List.length_append]
    exact hrow2.of (fun g hg => Below.heap_setCell w2 _ _ g (fun e => hrow2.ne hb2 (by decide) (by rw [show c = g from e.symm]; exact hg)))
  · intro p hp
    rcases List.mem_append.1 hp with hp | hp
    · exact (hlet p hp).of (fun g hg => F3.block g ((hlet p hp).lt g hg).1 (hnl (hlet p hp) g hg))
    · obtain rfl := List.mem_singleton.1 hp
      refine (hrow1.mono hbase).of (fun g hg => ?_)
      have := hn1 g hg
      have hcl := blk_lt hb
      rw [Below.heap_setCell w2 _ _ g (fun e => by have e : g = c := e; omega), hg2.block g (by simp; omega) (fun e => by have := (hrow.lt g e).1; omega)]
      exact Below.heap_alloc w1 _ g this.2
  · rcases hat2 k hk with h | h
    · exact .inl h
    · exact .inr (by have := hg1.size; simp at h; omega)
theorem send_end' {w V w1 V1 w2 V2 : World} {base c m : Nat} {lv v1 v2 : Value} {L : List Let} {t : Int} {bs : List Int} {o : Obj} (hb : w.heap[c]? = some (.cells #[lv] 27 (0, 0))) (hrow : RowP w base 32 2 lv L.length (flat L))
    (hlet : ∀ p ∈ L, RowP w base 5 1 p.2.1 p.2.2.length (p.2.2.map (Value.int .u8))) (hlo : base ≤ c) (hbs : bs.length = m) (hbase : base ≤ w.heap.size) (hV : Fr w V (fun _ => False)) (hrow1 : RowP w1 w.heap.size 5 1 v1 m (bs.map (Value.int .u8))) (hg1 : Fr V w1 (fun i => some i = (Value.slice none 0 0).ownBlock))
    (hat1 : ∀ k, some k = v1.ownBlock → some k = (Value.slice none 0 0).ownBlock ∨ w.heap.size ≤ k) (hV1 : Fr w1 V1 (fun _ => False)) (eV1 : V1.heap = w1.heap) (hrow2 : RowP w2 base 32 2 v2 (L.length + 1) (flat L ++ [.int .u8 t, v1])) (hg2 : Fr (V1.alloc o) w2 (fun i => some i = lv.ownBlock))
    (hat2 : ∀ k, some k = v2.ownBlock → some k = lv.ownBlock ∨ (V1.alloc o).heap.size ≤ k) (hV2 : Fr w2 V2 (fun _ => False)) (eV2 : V2.heap = w2.heap) :
    IsPost (V2.setCell ⟨c, 0, none⟩ v2) base c v2 (L ++ [(t, v1, bs)]) ∧ Fr w (V2.setCell ⟨c, 0, none⟩ v2) (fun i => i = c ∨ some i = lv.ownBlock) ∧ (∀ k, some k = v2.ownBlock → some k = lv.ownBlock ∨ w.heap.size ≤ k) ∧ (∀ k, some k = v1.ownBlock → w.heap.size ≤ k) :=
  send_end (w1 := V1) hb hrow hlet hlo hbs hbase (hrow1.of (fun g _ => by rw [eV1])) (((hV.mono (fun _ h => h.elim)).trans hg1).trans (hV1.mono (fun _ h => h.elim))) hat1 (hrow2.of (fun g _ => by rw [eV2])) (hg2.trans (hV2.mono (fun _ h => h.elim))) hat2
set_option maxHeartbeats 4000000 in
theorem send_any (c m capb base : Nat) (t : Int) (lv : Value) (L : List Let) (bs : List Int) (ad : Addr) (w : World) (H : IsPost w base c lv L) (hL : L.length < 512) (hbase : base ≤ w.heap.size) (hbs : bs.length = m) (hm : m < 100000000)
    (hcell : ∀ j u, (bs.map (Value.int .u8))[j]? = some u → w.cell? (ad.add j) = some u) :
    Calls Try.prog 7 #[.pointer (some ⟨c, 0, none⟩), .int .u8 t, .slice (some ad) m capb] w fun e w' => e = .returned (.tuple #[]) ∧ ∃ lv' v', IsPost w' base c lv' (L ++ [(t, v', bs)]) ∧ Fr w w' (fun i => i = c ∨ some i = lv.ownBlock) ∧
      (∀ k, some k = lv'.ownBlock → some k = lv.ownBlock ∨ w.heap.size ≤ k) ∧ (∀ k, some k = v'.ownBlock → w.heap.size ≤ k) := by
  obtain ⟨hb, hrow, hlet, hlo⟩ := H
  obtain ⟨A, cap, rfl⟩ := hrow.form
  obtain ⟨hc, hf⟩ := cell1 hb
  obtain ⟨i5, hi5, hz50, hz51, hz52⟩ := info_parts info5
  obtain ⟨i0, hi, hz0, hz1, hz2⟩ := info_parts info32
  have HM1 : Aside0 (0 + m ≤ maxLen) := ⟨by unfold maxLen; omega⟩
  have HM2 : Aside0 ((0 + m) * 1 ≤ 140737488355328) := ⟨by omega⟩
  have HM3 : Aside0 (L.length + 1 ≤ maxLen) := ⟨by unfold maxLen; omega⟩
  have HM4 : Aside0 ((L.length + 1) * 32 ≤ 140737488355328) := ⟨by omega⟩
  have HL := Aside0.mk hL
  have HB := Aside0.mk hbase
  have HN : Aside0 ((bs.map (Value.int .u8)).length = m * 1) := ⟨by simp [hbs]⟩
  have HBS := Aside0.mk hbs
  clear hL hbase hbs hm
  go_enter Try.func7, Try.ntmps7
  go_wp2
  go_region_law (first
    | (refine step_append_p rfl (.const (.slice none 0 0)) (.tmp 14) 30 rfl w.heap.size 5 i5 _ 1 1 Try.underlying30 hi5 hz50 hz51 hz52 rfl Nat.zero_lt_one (.slice none 0 0) 0 [] rfl (rowP_nil _ _ _ _) ad m capb _ rfl HN.out hcell (oneB bs) HM1.out HM2.out (Nat.le_refl _) ?_
       intro v1 w1 hrow1 hg1 hat1
       rw [Nat.zero_add] at hrow1
       obtain ⟨A1, c1, rfl⟩ := hrow1.form
       have hb1 : w1.heap[c]? = some (.cells #[.slice A L.length cap] 27 (0, 0)) := hg1.at hb (by simp [Value.ownBlock])
       have hrw1 : RowP w1 base 32 2 (.slice A L.length cap) L.length (flat L) := hrow.of (fun g hg => hg1.block g (hrow.lt g hg).1 (by simp [Value.ownBlock]))
       have hlt1 := blk_lt hb1
       have hB1 : Aside0 (base ≤ w1.heap.size) := ⟨Nat.le_trans HB.out hg1.size⟩
       clear hc hf
       obtain ⟨hc, hf⟩ := cell1 hb1)
    | (refine step_append_p rfl (.tmp 12) (.tmp 17) 25 rfl base 32 i0 _ 2 32 Try.underlying25 hi hz0 hz1 hz2 rfl Nat.zero_lt_two (.slice A L.length cap) L.length (flat L) rfl (hrw1.of (fun g hg => Below.heap_alloc w1 _ g (hrw1.lt g hg).1)) ⟨_, 0, none⟩ 1 1 [.int .u8 t, .slice A1 m c1] rfl rfl (fun j u hj => cell_two_new2 w1 (.int .u8 t) (.slice A1 m c1) 32 j u hj) (one2 _ _ _ _) HM3.out HM4.out (Nat.le_trans hB1.out (by simp)) ?_
       intro v2 w2 hrow2 hg2 hat2
       obtain ⟨A2, c2, rfl⟩ := hrow2.form
       have hb2 : w2.heap[c]? = some (.cells #[.slice A L.length cap] 27 (0, 0)) := hg2.at (blk_alloc hb1 _) (hrw1.ne hb1 (by decide))
       clear hc hf
       obtain ⟨hc, hf⟩ := cell1 hb2))
  all_goals
    have hlt2 := blk_lt hb2
    have h512 : ¬ (L.length : Int) + 1 > 512 := by have := HL.out; omega
    have q1 := blk_put hb2 0 (.slice A2 (L.length + 1) c2) rfl
    obtain ⟨U, hU⟩ : ∃ U, U = w2.setCell ⟨c, 0, none⟩ (.slice A2 (L.length + 1) c2) := ⟨_, rfl⟩
    have q2 : U.heap[c]? = some (.cells #[.slice A2 (L.length + 1) c2] 27 (0, 0)) := by rw [hU]; exact q1
    rw [← hU]
    obtain ⟨hd, hdf⟩ := cell1 q2
    go_wp2
    refine bodyPost_end (results_none rfl _ _ _) rfl ?_
    refine ⟨rfl, .slice A2 (L.length + 1) c2, .slice A1 m c1, ?_⟩
    refine send_end' hb hrow hlet hlo HBS.out HB.out ?_ hrow1 hg1 hat1 ?_ ?_ hrow2 hg2 hat2 ?_ ?_
    all_goals first | exact ⟨rfl, rfl, rfl, Nat.le_refl _, fun _ _ _ => rfl⟩ | rfl
end Go.Proofs.Ytpmlbomkjegkgaa
