/- PostNil. -/
import Derived.Test.YtpmlbomkjegkgaaPostE
import Derived.Outline
import Derived.Laws.BytesArg
import Derived.OwnWalk
namespace Go.Proofs.Ytpmlbomkjegkgaa
open Go.RowKit Go.Proofs.YtpmlbomkjegkgaaW.PrintWords
set_option linter.unusedVariables false

/-- A row of numbers that came in. -/
structure RowIn (k : IntKind) (w : World) (a : Option Addr) (len : Nat) (zs : List Int) : Prop where
  long : zs.length = len
  wf : ∀ n ∈ zs, (Lit.int k n).wf = true
  cell : ∀ i, i < len → ∃ x, a = some x ∧ w.cell? (x.add i) = some (.int k (zs.getD i 0))
theorem conv_row {w : World} {ad : Addr} {len cap : Nat} {xs : List Int} (hlen : xs.length = len) (hcell : ∀ j v, (xs.map (Value.int .u8))[j]? = some v → w.cell? (ad.add j) = some v) :
    (convert 30 9 (.slice (some ad) len cap)).run Try.prog w = .ok (.string (strOfNums xs)) w := by
  have hl : (loadCells ad len).run Try.prog w = .ok (xs.map (Value.int .u8)).toArray w := by
    have := run_loadCells_list (P := Try.prog) w ad (xs.map (Value.int .u8)) hcell
    simpa [hlen] using this
  rw [run_convert_bytes_string w 30 9 5 _ len cap Try.underlying30 Try.underlying5 Try.underlying9, run_bytesToString w _ len cap xs hl, foldl_push_bytes]
  simp [strOfNums, ByteArray.empty, ByteArray.emptyWithCapacity]
  rfl
theorem wpList_append_p {P : Program} (w : World) {ops : Array Oper} {rest : List Oper} {o : Oper} {a : Act} {Q : Exit → Act → World → Prop}
    (hg : o.guard = none) (s x : Operand) (t : TypeId) (hop : o.op = Op.call { callee := Callee.builtin Builtin.append, args := #[s, x], argTypes := #[t, t] })
    (base : Nat) (e : TypeId) (i : TypeInfo) (z : Value) (size bytes : Nat) (ht : P.underlying t = some (.slice e)) (hi : P.info? e = some i) (hz : i.zero = some z)
    (hsize : i.size = size) (hby : i.bytes = bytes) (hzs : z.cells.size = size) (hsz : 0 < size)
    (v : Value) (n : Nat) (xs : List Value) (hs : a.eval s = v) (hown : RowP w base e size v n xs)
    (ad : Addr) (m c : Nat) (news : List Value) (hx : a.eval x = .slice (some ad) m c) (hl : news.length = m * size) (hnews : ∀ j u, news[j]? = some u → w.cell? (ad.add j) = some u) (h1 : ∀ u ∈ news, u.oneCell' = true)
    (h63 : n + m ≤ maxLen) (hbytes : (n + m) * bytes ≤ 140737488355328) (hbase : base ≤ w.heap.size)
    (hK : ∀ v' w', RowP w' base e size v' (n + m) (xs ++ news) → Fr w w' (fun i => some i = v.ownBlock) → (∀ k, some k = v'.ownBlock → some k = v.ownBlock ∨ w.heap.size ≤ k) → wpList P ops Q rest (a.put o.dst v') w') :
    wpList P ops Q (o :: rest) a w := by
  refine wpList_plain hg fun K hK' => ?_
  obtain ⟨v', w', hrun, r1, r2, r3⟩ := run_append_p (P := P) w base t o.type e i z size bytes ht hi hz hsize hby hzs hsz v n xs hown ad m c news hl hnews h1 h63 hbytes hbase
  unfold Oper.wp
  simp [execOp, hop, resolve, invoke, builtin, hs, hx, hrun, Result.andThen]
  exact hK' _ _ (hK v' w' r1 r2 r3)
theorem RowP.blk {w : World} {base : Nat} {e : TypeId} {v : Value} {n : Nat} {xs : List Value} (h : RowP w base e 1 v n xs) (hn : 0 < n) : ∃ g cap cur, v = .slice (some ⟨g, 0, none⟩) n cap ∧ w.heap[g]? = some (.cells cur e (0, 0)) ∧ ∀ j u, xs[j]? = some u → w.cell? ⟨g, j, none⟩ = some u := by
  obtain ⟨g, cap, rfl, _, _, h3⟩ := h.cells hn
  obtain ⟨_, (⟨hq, _⟩ | ⟨g', cap', cur, hq, h1, h2, _⟩)⟩ := h
  · cases hq
  · injection hq with hq _ _; injection hq with hq; injection hq with hq; subst hq
    exact ⟨g, cap, cur, rfl, h2, h3⟩
theorem IsPost.below {w w' : World} {base c : Nat} {lv : Value} {L : List Let} (h : IsPost w base c lv L) (hb : Below w.heap.size w w') : IsPost w' base c lv L :=
  ⟨blk_below h.blk hb, h.row.of (fun g hg => hb.block g (h.row.lt g hg).1), fun p hp => (h.let_ p hp).of (fun g hg => hb.block g ((h.let_ p hp).lt g hg).1), h.lo⟩
theorem IsPost.set {w : World} {base c : Nat} {lv : Value} {L : List Let} (h : IsPost w base c lv L) {g j : Nat} {x : Value} {cs : Array Value} (hg : w.heap[g]? = some (.cells cs 5 (0, 0))) (hn : ∀ p ∈ L, some g ≠ p.2.1.ownBlock) : IsPost (w.setCell ⟨g, j, none⟩ x) base c lv L :=
  ⟨blk_far (p := ⟨g, j, none⟩) h.blk (fun e => by have := h.blk; rw [show c = g from e, hg] at this; simp at this) x, h.row.of (fun k hk => Below.heap_setCell w _ x k (fun e => h.row.ne hg (by decide) (by rw [show g = k from e.symm]; exact hk))),
    fun p hp => (h.let_ p hp).of (fun k hk => Below.heap_setCell w _ x k (fun e => hn p hp (by rw [show g = k from e.symm]; exact hk))), h.lo⟩
theorem IsPost.block {w : World} {base c : Nat} {lv : Value} {L : List Let} (h : IsPost w base c lv L) (hbase : base ≤ w.heap.size) {w' : World} (k : Fr w w' (fun i => i = c ∨ some i = lv.ownBlock)) : Below base w w' :=
  k.below hbase (fun i hi => by rcases hi with rfl | hi; exact h.lo; exact (h.row.lt i hi).2)
theorem IsPost.kept {w w' : World} {base c : Nat} {lv : Value} {L : List Let} (h : IsPost w base c lv L) {p : Let} (hp : p ∈ L) (k : Fr w w' (fun i => i = c ∨ some i = lv.ownBlock)) : RowP w' base 5 1 p.2.1 p.2.2.length (p.2.2.map (Value.int .u8)) := by
  refine (h.let_ p hp).of (fun g hg => k.block g ((h.let_ p hp).lt g hg).1 ?_)
  rintro (rfl | hl)
  · exact (h.let_ p hp).ne h.blk (by decide) hg
  · obtain ⟨_, (⟨hq, _⟩ | ⟨g', cap', cur, hq, _, hgg, _⟩)⟩ := h.row
    · rw [hq] at hl; simp [Value.ownBlock] at hl
    · rw [hq] at hl; simp [Value.ownBlock] at hl; subst hl; exact (h.let_ p hp).ne hgg (by decide) hg
set_option maxHeartbeats 8000000 in
theorem nil_any (t i : Int) (A : Option Addr) (len cap : Nat) (zs : List Int) (w : World) (hr : RowIn .u8 w A len zs) (hl : ((len : Int) == 0) = false) (hg : ¬ 50 < len) :
    Calls Try.prog 5 #[.int .u8 t, .slice A len cap, .int .i64 i] w fun e w' => e = .returned (.bool true) ∧ Below w.heap.size w w' := by
  have hpos : 0 < len := by
    have : (len : Int) ≠ 0 := by simpa using hl
    omega
  obtain ⟨ad, rfl, had⟩ := hr.cell 0 hpos
  have hz : ∀ j u, (zs.map (Value.int .u8))[j]? = some u → w.cell? (ad.add j) = some u := by
    intro j u hj
    have hjl : j < zs.length := by
      rcases Nat.lt_or_ge j zs.length with h | h
      · exact h
      · rw [List.getElem?_eq_none (by simpa using h)] at hj; cases hj
    obtain ⟨x, hx, hc⟩ := hr.cell j (by rw [← hr.long]; exact hjl)
    injection hx with hx; subst hx
    rw [hc]
    simp [List.getElem?_eq_getElem hjl] at hj
    subst hj
    simp [List.getD, List.getElem?_eq_getElem hjl]
  have hzl := hr.long
  have HZ := Aside0.mk hz
  have HZL := Aside0.mk hzl
  clear had hr hz hzl
  have hzt : ∀ {w' : World}, Below w.heap.size w w' → ∀ j u, (zs.map (Value.int .u8))[j]? = some u → w'.cell? (ad.add j) = some u := by
    intro w' hB j u hj
    have := HZ.out j u hj
    rw [hB.cell (World.block_lt_of_cell? w _ this)]
    exact this
  have HZT := Aside0.mk @hzt
  clear hzt
  obtain ⟨i5, hi5, hz50, hz51, hz52⟩ := info_parts info5
  have HI5 := Aside0.mk hi5
  have HI50 := Aside0.mk hz50
  have HI51 := Aside0.mk hz51
  have HI52 := Aside0.mk hz52
  clear hi5 hz50 hz51 hz52
  go_enter Try.func5, Try.ntmps5
  go_wp2_with fail
  go_at_call 6
  refine (awake_any _).mono ?_
  rintro e w1 ⟨rfl, hB1⟩
  have HB1 := Aside0.mk hB1
  clear hB1
  go_wp2_with fail
  go_at_call 7
  refine (send_nil _ _ _).mono ?_
  rintro e w2 ⟨rfl, rfl⟩
  go_wp2_with fail
  go_at_call 8
  refine (take_nil _ _).mono ?_
  rintro e w3 ⟨rfl, hB3⟩
  have HB3 : Aside0 (Below w.heap.size w w3) := ⟨HB1.out.trans (hB3.mono HB1.out.size)⟩
  clear hB3
  have HN : Aside0 ((zs.map (Value.int .u8)).length = len * 1) := ⟨by simp [HZL.out]⟩
  have HM1 : Aside0 (0 + len ≤ maxLen) := ⟨by unfold maxLen; omega⟩
  have HM2 : Aside0 ((0 + len) * 1 ≤ 140737488355328) := ⟨by omega⟩
  have HPS := Aside0.mk hpos
  obtain ⟨d, hd0⟩ : ∃ d, d = w3.heap.size := ⟨_, rfl⟩
  have HD := Aside0.mk hd0
  have b0 : Aside0 (Below w.heap.size w ((w3.alloc (.cells #[.int .u8 0, .slice none 0 0] 32)).alloc (.cells #[.slice none 0 0] 27))) := ⟨below_alloc (below_alloc HB3.out _) _⟩
  have hP0 : Aside0 (IsPost ((w3.alloc (.cells #[.int .u8 0, .slice none 0 0] 32)).alloc (.cells #[.slice none 0 0] 27)) (w3.heap.size + 1) (w3.heap.size + 1) (.slice none 0 0) []) := ⟨new_post (by simpa using blk_new (w3.alloc (.cells #[.int .u8 0, .slice none 0 0] 32)) (.cells #[.slice none 0 0] 27)) (Nat.le_refl _)⟩
  clear hd0 hpos
  go_wp2_with (at_builtin; refine wpList_append_p _ rfl _ _ 30 rfl 0 5 i5 _ 1 1 Try.underlying30 HI5.out HI50.out HI51.out HI52.out rfl Nat.zero_lt_one (.slice none 0 0) 0 [] rfl (rowP_nil _ _ _ _) ad len cap (zs.map (Value.int .u8)) rfl HN.out (HZT.out b0.out) (oneB zs) HM1.out HM2.out (Nat.zero_le _) ?_; intro vq w4 hrq hfq haq; rw [Nat.zero_add] at hrq; obtain ⟨gq, cq, cur, rfl, hgq, hcq⟩ := hrq.blk HPS.out; have HGQ := Aside0.mk hgq; have HCQ := Aside0.mk hcq; have HFQ := Aside0.mk hfq; have HAQ := Aside0.mk haq; have HRQ := Aside0.mk hrq; clear hrq hgq hcq hfq haq)
  go_at_call 7
  obtain ⟨c, hc0⟩ : ∃ c, c = w3.heap.size + 1 := ⟨_, rfl⟩
  rw [← hc0]
  have HC := Aside0.mk hc0
  have hf4 : Below ((w3.alloc (.cells #[.int .u8 0, .slice none 0 0] 32)).alloc (.cells #[.slice none 0 0] 27)).heap.size ((w3.alloc (.cells #[.int .u8 0, .slice none 0 0] 32)).alloc (.cells #[.slice none 0 0] 27)) w4 := HFQ.out.below (Nat.le_refl _) (fun i hi => by simp [Value.ownBlock] at hi)
  have hP4 : IsPost w4 c c (.slice none 0 0) [] := by rw [hc0]; exact hP0.out.below hf4
  have HB4 : Aside0 (Below w.heap.size w w4) := ⟨b0.out.trans (hf4.mono b0.out.size)⟩
  have hcq : c < gq := by
    have := HAQ.out gq (by simp [Value.ownBlock])
    rcases this with h | h
    · simp [Value.ownBlock] at h
    · simp at h; omega
  have HBC : Aside0 (w.heap.size ≤ c) := ⟨by have := HB3.out.size; omega⟩
  have hc4 : c ≤ w4.heap.size := Nat.le_of_lt (blk_lt hP4.blk)
  clear hc0 hf4 hP0 b0 HFQ HAQ
  refine (send_any c len cq c t _ [] zs ⟨gq, 0, none⟩ w4 hP4 (by decide) hc4 HZL.out (by omega) (fun j u hj => by rw [add_plain]; exact HCQ.out j u hj)).mono ?_
  rintro e w5 ⟨rfl, lv5, v5, hP5, hF5, _, hv5⟩
  have hB5 : Below c w4 w5 := hP4.block hc4 hF5
  have HB5 : Aside0 (Below w.heap.size w w5) := ⟨HB4.out.trans (hB5.mono HBC.out)⟩
  have hq5 : w5.heap[gq]? = some (.cells cur 5 (0, 0)) := hF5.at HGQ.out (by rintro (h | h); omega; simp [Value.ownBlock] at h)
  obtain ⟨z0, hz0⟩ : ∃ z0, zs[0]? = some z0 := ⟨_, List.getElem?_eq_getElem (by rw [HZL.out]; exact HPS.out)⟩
  have hcell5 : w5.cell? ⟨gq, 0, none⟩ = some (.int .u8 z0) := by
    rw [blk_cell hq5, ← blk_cell HGQ.out]
    exact HCQ.out 0 _ (by rw [List.nil_append, List.getElem?_map, hz0]; rfl)
  have hfz5 : w5.frozen? ⟨gq, 0, none⟩ = false := blk_frozen hq5 0
  have hgv : some gq ≠ v5.ownBlock := fun e => by have := hv5 _ e; have := blk_lt HGQ.out; omega
  have HP5 := Aside0.mk hP5
  have HQ5 := Aside0.mk hq5
  have HGV := Aside0.mk hgv
  clear hP4 hP5 hF5 hv5 hB5 hq5 hgv hc4 hz0
  have h0len : (0 : Int) < len := by have := HPS.out; omega
  have h0l : 0 < len := HPS.out
  go_wp2_with fail
  go_at_call 10
  obtain ⟨V5, hV5⟩ : ∃ V5, V5 = w5.setCell ⟨gq, 0, none⟩ (.int .u8 ((z0 + 1) % 256)) := ⟨_, rfl⟩
  have hP6 : IsPost V5 c c lv5 ([] ++ [(t, v5, zs)]) := by rw [hV5]; exact HP5.out.set HQ5.out (fun p hp => by simp at hp; subst hp; exact HGV.out)
  have HBV : Aside0 (Below w.heap.size w V5) := ⟨by rw [hV5]; exact HB5.out.setCell (p := ⟨gq, 0, none⟩) (by have := HBC.out; show w.heap.size ≤ gq; omega) _⟩
  rw [← hV5]
  clear hV5 hcell5 hfz5 HB5 HP5 HQ5
  clear w5
  have hc6 : c ≤ V5.heap.size := Nat.le_of_lt (blk_lt hP6.blk)
  refine (double_any c c i lv5 _ V5 hP6 (by simp) (by simp) hc6 (fun p hp => by simp at hp; subst hp; exact ⟨by rw [HZL.out]; exact h0l, by rw [HZL.out]; omega⟩)).mono ?_
  rintro e w6 ⟨rfl, k, p, _, hkp, lv6, v6, hP7, hF7, _, _⟩
  have hpe : p = (t, v5, zs) := by
    have := List.mem_of_getElem? hkp
    simpa using this
  subst hpe
  have HB6 : Aside0 (Below w.heap.size w w6) := ⟨HBV.out.trans ((hP6.block hc6 hF7).mono HBC.out)⟩
  have HP7 := Aside0.mk hP7
  clear hP6 hF7 hP7 hkp hc6
  go_wp2_with fail
  go_at_call 8
  have hc7 : c ≤ w6.heap.size := Nat.le_of_lt (blk_lt HP7.out.blk)
  refine (take_any c c i lv6 _ w6 HP7.out (by simp) (by simp) hc7).mono ?_
  rintro e w7 ⟨k2, p2, _, hkp2, rfl, lv7, hP8, hF8, _⟩
  have hm2 := List.mem_of_getElem? hkp2
  have hr7 := HP7.out.kept hm2 hF8
  have hp2 : p2.1 = t ∧ p2.2.2 = zs := by
    simp at hm2
    rcases hm2 with rfl | rfl <;> exact ⟨rfl, rfl⟩
  have hlen8 : (([] ++ [(t, v5, zs)] ++ [((t, v5, zs).1, v6, (t, v5, zs).2.2)] : List Let).take k2 ++ ([] ++ [(t, v5, zs)] ++ [((t, v5, zs).1, v6, (t, v5, zs).2.2)] : List Let).drop (k2 + 1)).length = 1 := by
    have hk2 : k2 < 2 := by
      rcases Nat.lt_or_ge k2 2 with h | h
      · exact h
      · rw [List.getElem?_eq_none (by simpa using h)] at hkp2; cases hkp2
    rw [List.length_append, List.length_take, List.length_drop]; simp; omega
  have HB7 : Aside0 (Below w.heap.size w w7) := ⟨HB6.out.trans ((HP7.out.block hc7 hF8).mono HBC.out)⟩
  obtain ⟨pt, pv, pz⟩ := p2
  obtain ⟨rfl, rfl⟩ := hp2
  dsimp only at hr7
  rw [HZL.out] at hr7
  obtain ⟨gx, cx, curx, rfl, _, hcx⟩ := hr7.blk h0l
  obtain ⟨A8, c8, hl8⟩ := hP8.row.form
  rw [hlen8] at hl8
  have hb8 := hP8.blk
  rw [hl8] at hb8
  have HB8 := Aside0.mk hb8
  have HCX := Aside0.mk hcx
  clear hP8 hF8 hr7 hm2 hkp2 hlen8 hl8 hb8 hcx hc7 HP7
  go_wp2_with fail
  go_at_call 11
  obtain ⟨gy, hgy⟩ : ∃ gy, gy = w7.heap.size := ⟨_, rfl⟩
  have hy0 : (w7.alloc (.cells #[.int .u8 pt, .slice (some ⟨gx, 0, none⟩) len cx] 32)).heap[gy]? = some (.cells #[.int .u8 pt, .slice (some ⟨gx, 0, none⟩) len cx] 32 (0, 0)) := by rw [hgy]; exact blk_new _ _
  have HY := Aside0.mk hy0
  rw [← hgy]
  clear hgy hy0
  refine (lose_nil _ _).mono ?_
  rintro e w8 ⟨rfl, hB8⟩
  have HB88 := Aside0.mk hB8
  clear hB8
  go_wp2_with fail
  go_at_call 10
  refine (double_nil _ _).mono ?_
  rintro e w9 ⟨rfl, hB9⟩
  have hy9 := blk_below (blk_below HY.out HB88.out) hB9
  have hb9 := blk_below (blk_below (blk_alloc HB8.out (.cells #[.int .u8 pt, .slice (some ⟨gx, 0, none⟩) len cx] 32)) HB88.out) hB9
  have hB79 : Below w7.heap.size w7 w9 := (below_alloc (Below.refl _ _) _).trans ((HB88.out.mono (by simp)).trans (hB9.mono (by have := HB88.out.size; simp at this; omega)))
  have HB9 : Aside0 (Below w.heap.size w w9) := ⟨HB7.out.trans (hB79.mono HB7.out.size)⟩
  have hcv1 : (convert 30 9 (.slice (some ⟨gx, 0, none⟩) len cx)).run Try.prog w9 = .ok (.string (strOfNums pz)) w9 := conv_row HZL.out (fun j v hj => by
    have := HCX.out j v hj
    rw [add_plain, hB79.cell (World.block_lt_of_cell? w7 _ this)]
    exact this)
  have hcv2 : (convert 30 9 (.slice (some ad) len cap)).run Try.prog w9 = .ok (.string (strOfNums pz)) w9 := conv_row HZL.out (HZT.out HB9.out)
  have HB99 := Aside0.mk hb9
  clear hB9 hB79 hb9 HB88
  clear w8
  obtain ⟨hy0, hy1, hyf⟩ := cells2 hy9
  go_wp2_with fail
  go_at_call 9
  refine (len_nil _).mono ?_
  rintro e w10 ⟨rfl, rfl⟩
  go_wp2_with fail
  go_at_call 9
  refine (len_any c 1 c8 A8 _ HB99.out).mono ?_
  rintro e w11 ⟨rfl, rfl⟩
  go_wp2
  go_ret
  exact ⟨rfl, HB9.out⟩
theorem nil_all (t i : Int) (A : Option Addr) (len cap : Nat) (zs : List Int) (w : World) (hr : RowIn .u8 w A len zs) :
    Calls Try.prog 5 #[.int .u8 t, .slice A len cap, .int .i64 i] w fun e w' => e = .returned (.bool true) ∧ Below w.heap.size w w' := by
  by_cases hl : ((len : Int) == 0) = true
  · go_enter Try.func5, Try.ntmps5
    go_wp2_with fail
    go_at_call 6
    refine (awake_any _).mono ?_
    rintro e w1 ⟨rfl, hB1⟩
    have HB1 := Aside0.mk hB1
    clear hB1
    go_wp2_with fail
    go_at_call 6
    refine (awake_any _).mono ?_
    rintro e w2 ⟨rfl, hB2⟩
    have HB2 := Aside0.mk hB2
    clear hB2
    go_wp2
    go_ret
    exact ⟨rfl, HB1.out.trans (HB2.out.mono HB1.out.size)⟩
  by_cases hg : 50 < len
  · have hl : ((len : Int) == 0) = false := by simpa using hl
    go_enter Try.func5, Try.ntmps5
    go_wp2_with fail
    go_at_call 6
    refine (awake_any _).mono ?_
    rintro e w1 ⟨rfl, hB1⟩
    have HB1 := Aside0.mk hB1
    clear hB1
    go_wp2_with fail
    go_at_call 6
    refine (awake_any _).mono ?_
    rintro e w2 ⟨rfl, hB2⟩
    have HB2 := Aside0.mk hB2
    clear hB2
    go_wp2
    go_ret
    exact ⟨rfl, HB1.out.trans (HB2.out.mono HB1.out.size)⟩
  exact nil_any t i A len cap zs w hr (by simpa using hl) hg
end Go.Proofs.Ytpmlbomkjegkgaa
