/- Send of a post that is full. -/
import Derived.Test.YtpmlbomkjegkgaaPostE
namespace Go.Proofs.Ytpmlbomkjegkgaa
open Go.RowKit Go.Proofs.YtpmlbomkjegkgaaW.PrintWords
set_option linter.unusedVariables false
theorem IsPost.kept2 {w w' : World} {base c : Nat} {lv : Value} {L : List Let} (h : IsPost w base c lv L) {p : Let} (hp : p ∈ L) (k : Fr w w' (fun i => i = c ∨ some i = lv.ownBlock)) : RowP w' base 5 1 p.2.1 p.2.2.length (p.2.2.map (Value.int .u8)) := by
  refine (h.let_ p hp).of (fun g hg => k.block g ((h.let_ p hp).lt g hg).1 ?_)
  rintro (rfl | hl)
  · exact (h.let_ p hp).ne h.blk (by decide) hg
  · obtain ⟨_, (⟨hq, _⟩ | ⟨g', cap', cur, hq, _, hgg, _⟩)⟩ := h.row
    · rw [hq] at hl; simp [Value.ownBlock] at hl
    · rw [hq] at hl; simp [Value.ownBlock] at hl; subst hl; exact (h.let_ p hp).ne hgg (by decide) hg
theorem trim_end {U V w3 V3 : World} {base c m : Nat} {lv v3 : Value} {M : List Let} (P : IsPost U base c lv M) (hV : Fr U V (fun _ => False)) (hrow3 : RowP w3 base 32 2 v3 m (flat (M.drop 1))) (hm : m = (M.drop 1).length) (hg3 : Fr V w3 (fun i => some i = (Value.slice none 0 0).ownBlock))
    (hat3 : ∀ j, some j = v3.ownBlock → some j = (Value.slice none 0 0).ownBlock ∨ U.heap.size ≤ j) (hV3 : Fr w3 V3 (fun _ => False)) (e3 : V3.heap = w3.heap) :
    IsPost (V3.setCell ⟨c, 0, none⟩ v3) base c v3 (M.drop 1) ∧ Fr U (V3.setCell ⟨c, 0, none⟩ v3) (fun i => i = c ∨ some i = lv.ownBlock) ∧ ∀ k, some k = v3.ownBlock → U.heap.size ≤ k := by
  have hnn : ∀ k, ¬ some k = (Value.slice none 0 0).ownBlock := by simp [Value.ownBlock]
  have F0 : Fr U V3 (fun i => i = c) := ((hV.mono (fun _ h => h.elim)).trans (hg3.mono (fun i h => absurd h (hnn i)))).trans (hV3.mono (fun _ h => h.elim))
  have G0 : Fr U V3 (fun _ => False) := (hV.trans (hg3.mono (fun i h => absurd h (hnn i)))).trans hV3
  have F1 := F0.set (p := ⟨c, 0, none⟩) (.inl rfl) v3
  have F2 : Fr U (V3.setCell ⟨c, 0, none⟩ v3) (fun i => i = c ∨ some i = lv.ownBlock) := F1.mono (fun i h => .inl h)
  have hb3 : V3.heap[c]? = some (.cells #[lv] 27 (0, 0)) := G0.at P.blk (fun h => h)
  have hr3 : RowP V3 base 32 2 v3 m (flat (M.drop 1)) := hrow3.of (fun g _ => by rw [e3])
  subst hm
  refine ⟨⟨blk_put hb3 0 v3 rfl, hr3.of (fun g hg => Below.heap_setCell V3 _ _ g (fun e => hr3.ne hb3 (by decide) (by rw [show c = g from e.symm]; exact hg))), fun p hp => P.kept2 (List.mem_of_mem_drop hp) F2, P.lo⟩, F2, fun k hk => (hat3 k hk).resolve_left (hnn k)⟩
theorem trim_fin {w U V w3 V3 : World} {base c m : Nat} {lv lvU v1 v3 : Value} {M : List Let} (EF : Fr w U (fun i => i = c ∨ some i = lv.ownBlock)) (E1 : ∀ k, some k = lvU.ownBlock → some k = lv.ownBlock ∨ w.heap.size ≤ k) (E2 : ∀ k, some k = v1.ownBlock → w.heap.size ≤ k)
    (P : IsPost U base c lvU M) (hV : Fr U V (fun _ => False)) (hrow3 : RowP w3 base 32 2 v3 m (flat (M.drop 1))) (hm : m = (M.drop 1).length) (hg3 : Fr V w3 (fun i => some i = (Value.slice none 0 0).ownBlock))
    (hat3 : ∀ j, some j = v3.ownBlock → some j = (Value.slice none 0 0).ownBlock ∨ U.heap.size ≤ j) (hV3 : Fr w3 V3 (fun _ => False)) (e3 : V3.heap = w3.heap) :
    IsPost (V3.setCell ⟨c, 0, none⟩ v3) base c v3 (M.drop 1) ∧ Fr w (V3.setCell ⟨c, 0, none⟩ v3) (fun i => i = c ∨ some i = lv.ownBlock) ∧ (∀ k, some k = v3.ownBlock → some k = lv.ownBlock ∨ w.heap.size ≤ k) ∧ (∀ k, some k = v1.ownBlock → w.heap.size ≤ k) := by
  obtain ⟨h1, h2, h3⟩ := trim_end P hV hrow3 hm hg3 hat3 hV3 e3
  refine ⟨h1, EF.trans' h2 (fun i hi h => h.imp id (fun h => (E1 i h).resolve_right (by omega))), fun k hk => .inr (Nat.le_trans EF.size (h3 k hk)), E2⟩
set_option maxHeartbeats 4000000 in
theorem send_full (c m capb base : Nat) (t : Int) (lv : Value) (L : List Let) (bs : List Int) (ad : Addr) (w : World) (H : IsPost w base c lv L) (hL : L.length = 512) (hbase : base ≤ w.heap.size) (hbs : bs.length = m) (hm : m < 100000000)
    (hcell : ∀ j u, (bs.map (Value.int .u8))[j]? = some u → w.cell? (ad.add j) = some u) :
    Calls Try.prog 7 #[.pointer (some ⟨c, 0, none⟩), .int .u8 t, .slice (some ad) m capb] w fun e w' => e = .returned (.tuple #[]) ∧ ∃ lv' v', IsPost w' base c lv' ((L ++ [(t, v', bs)]).drop 1) ∧ Fr w w' (fun i => i = c ∨ some i = lv.ownBlock) ∧
      (∀ k, some k = lv'.ownBlock → some k = lv.ownBlock ∨ w.heap.size ≤ k) ∧ (∀ k, some k = v'.ownBlock → w.heap.size ≤ k) := by
  obtain ⟨hb, hrow, hlet, hlo⟩ := H
  obtain ⟨A, cap, rfl⟩ := hrow.form
  obtain ⟨hc, hf⟩ := cell1 hb
  obtain ⟨i5, hi5, hz50, hz51, hz52⟩ := info_parts info5
  obtain ⟨i0, hi, hz0, hz1, hz2⟩ := info_parts info32
  have HM1 : Aside0 (0 + m ≤ maxLen) := ⟨by unfold maxLen; omega⟩
  have HM2 : Aside0 ((0 + m) * 1 ≤ 140737488355328) := ⟨by omega⟩
  have HM3 : Aside0 (L.length + 1 ≤ maxLen) := ⟨by unfold maxLen; omega⟩
  have HM4 : Aside0 ((L.length + 1) * 32 ≤ 140737488355328) := ⟨by omega⟩
  have HL := Aside0.mk hL
  have HB := Aside0.mk hbase
  have HN : Aside0 ((bs.map (Value.int .u8)).length = m * 1) := ⟨by simp [hbs]⟩
  have HBS := Aside0.mk hbs
  clear hL hbase hbs hm
  go_enter Try.func7, Try.ntmps7
  go_wp2
  go_region_law (first
    | (refine step_append_p rfl (.const (.slice none 0 0)) (.tmp 14) 30 rfl w.heap.size 5 i5 _ 1 1 Try.underlying30 hi5 hz50 hz51 hz52 rfl Nat.zero_lt_one (.slice none 0 0) 0 [] rfl (rowP_nil _ _ _ _) ad m capb _ rfl HN.out hcell (oneB bs) HM1.out HM2.out (Nat.le_refl _) ?_
       intro v1 w1 hrow1 hg1 hat1
       rw [Nat.zero_add] at hrow1
       obtain ⟨A1, c1, rfl⟩ := hrow1.form
       have hb1 : w1.heap[c]? = some (.cells #[.slice A L.length cap] 27 (0, 0)) := hg1.at hb (by simp [Value.ownBlock])
       have hrw1 : RowP w1 base 32 2 (.slice A L.length cap) L.length (flat L) := hrow.of (fun g hg => hg1.block g (hrow.lt g hg).1 (by simp [Value.ownBlock]))
       have hlt1 := blk_lt hb1
       have hB1 : Aside0 (base ≤ w1.heap.size) := ⟨Nat.le_trans HB.out hg1.size⟩
       clear hc hf
       obtain ⟨hc, hf⟩ := cell1 hb1)
    | (refine step_append_p rfl (.tmp 12) (.tmp 17) 25 rfl base 32 i0 _ 2 32 Try.underlying25 hi hz0 hz1 hz2 rfl Nat.zero_lt_two (.slice A L.length cap) L.length (flat L) rfl (hrw1.of (fun g hg => Below.heap_alloc w1 _ g (hrw1.lt g hg).1)) ⟨_, 0, none⟩ 1 1 [.int .u8 t, .slice A1 m c1] rfl rfl (fun j u hj => cell_two_new2 w1 (.int .u8 t) (.slice A1 m c1) 32 j u hj) (one2 _ _ _ _) HM3.out HM4.out (Nat.le_trans hB1.out (by simp)) ?_
       intro v2 w2 hrow2 hg2 hat2
       obtain ⟨A2, c2, rfl⟩ := hrow2.form
       have hb2 : w2.heap[c]? = some (.cells #[.slice A L.length cap] 27 (0, 0)) := hg2.at (blk_alloc hb1 _) (hrw1.ne hb1 (by decide))
       clear hc hf
       obtain ⟨hc, hf⟩ := cell1 hb2))
  all_goals
    have hlt2 := blk_lt hb2
    have h512 : (512 : Int) < (L.length : Int) + 1 := by have := HL.out; omega
    have q1 := blk_put hb2 0 (.slice A2 (L.length + 1) c2) rfl
    have hend := send_end' (V := _) (V1 := _) (V2 := w2) (w2 := w2) hb hrow hlet hlo HBS.out HB.out (by first | exact (Fr.refl w _) | exact (Fr.refl w _).drew | exact (Fr.refl w _).drew.drew) hrow1 hg1 hat1 (by first | exact (Fr.refl w1 _) | exact (Fr.refl w1 _).drew) rfl hrow2 hg2 hat2 (Fr.refl w2 _) rfl
    obtain ⟨U, hU⟩ : ∃ U, U = w2.setCell ⟨c, 0, none⟩ (.slice A2 (L.length + 1) c2) := ⟨_, rfl⟩
    rw [← hU] at hend ⊢
    obtain ⟨PU, FU, h1U, h2U⟩ := hend
    have EF := Aside0.mk FU
    have E1 := Aside0.mk h1U
    have E2 := Aside0.mk h2U
    clear hU FU h1U h2U hrow1 hg1 hat1 hrow2 hg2 hat2 hc hf hb2 hlt2 hb1 hrw1 hB1 hlt1 hb hrow hcell
    try clear q1
    have hlM : (L ++ [(t, Value.slice A1 m c1, bs)]).length = L.length + 1 := by simp
    have hrU := PU.row
    rw [hlM] at hrU
    obtain ⟨g2, c2', hq, hg2b, _, hcl2⟩ := hrU.cells (by omega)
    injection hq with hq _ hq2
    subst hq hq2
    have hc2 : L.length + 1 ≤ c2 := by
      obtain ⟨_, (⟨hq, _⟩ | ⟨g', cap', cur, hq, h2, h3, h4, h5⟩)⟩ := hrU
      · cases hq
      · injection hq with _ _ hq; omega
    have hbU := PU.blk
    obtain ⟨hd, hdf⟩ := cell1 hbU
    have hN := HL.out
    have HPU := Aside0.mk PU
    have hle1 : (0 : Int) ≤ (L.length : Int) + 1 - 512 := by omega
    have k7 : IntKind.i64.wrap ((L.length : Int) + 1 - 512) = ((1 : Nat) : Int) := by rw [IntKind.wrap_i64]; omega
    have hc2' : ¬ c2 = 1 := by omega
    have hnews : ∀ j u, (flat ((L ++ [(t, Value.slice A1 m c1, bs)]).drop 1))[j]? = some u → U.cell? ((⟨g2, 2, none⟩ : Addr).add j) = some u := by
      intro j u hj
      rw [show (⟨g2, 2, none⟩ : Addr).add j = ⟨g2, 2 + j, none⟩ by simp [Addr.add]]
      refine hcl2 _ _ ?_
      obtain ⟨p, M, hM⟩ : ∃ p M, L ++ [(t, Value.slice A1 m c1, bs)] = p :: M := by
        cases hL' : L ++ [(t, Value.slice A1 m c1, bs)] with
        | nil => simp at hL'
        | cons p M => exact ⟨p, M, rfl⟩
      rw [hM] at hj ⊢
      rw [show (2 + j) = j + 1 + 1 by omega]
      simpa [flat] using hj
    have hone : ∀ u ∈ flat ((L ++ [(t, Value.slice A1 m c1, bs)]).drop 1), u.oneCell' = true := by
      intro u hu
      obtain ⟨q, hq, hu⟩ := List.mem_flatMap.1 hu
      obtain ⟨A', c', hf⟩ := (PU.let_ q (List.mem_of_mem_drop hq)).form
      simp only [List.mem_cons, List.not_mem_nil, or_false] at hu
      rcases hu with rfl | rfl
      · rfl
      · rw [hf]; rfl
    have HX1 : Aside0 ((flat ((L ++ [(t, Value.slice A1 m c1, bs)]).drop 1)).length = (L.length + 1 - 1) * 2) := ⟨by rw [flat_len, List.length_drop, hlM]⟩
    have HX2 : Aside0 (0 + (L.length + 1 - 1) ≤ maxLen) := ⟨by unfold maxLen; omega⟩
    have HX3 : Aside0 ((0 + (L.length + 1 - 1)) * 32 ≤ 140737488355328) := ⟨by omega⟩
    have HX4 : Aside0 (base ≤ U.heap.size) := ⟨Nat.le_trans HB.out EF.out.size⟩
    have HNW := Aside0.mk hnews
    have HON := Aside0.mk hone
    have k10 : (1 : Int) ≤ (L.length : Int) + 1 := by omega
    clear hnews hone hcl2 PU hrU hlM hN
    go_wp2
    go_region_law (refine step_append_p rfl (.const (.slice none 0 0)) (.tmp 38) 25 rfl base 32 i0 _ 2 32 Try.underlying25 hi hz0 hz1 hz2 rfl Nat.zero_lt_two (.slice none 0 0) 0 [] rfl (rowP_nil _ _ _ _) ⟨g2, 2, none⟩ (L.length + 1 - 1) (c2 - 1) (flat ((L ++ [(t, Value.slice A1 m c1, bs)]).drop 1)) rfl HX1.out HNW.out HON.out HX2.out HX3.out HX4.out ?_
                   intro v3 w3 hrow3 hg3 hat3
                   rw [Nat.zero_add] at hrow3
                   obtain ⟨A3, c3, rfl⟩ := hrow3.form
                   have hb3 := hg3.at hbU (by simp [Value.ownBlock])
                   clear hd hdf
                   obtain ⟨hd, hdf⟩ := cell1 hb3)
    all_goals
      go_wp2
      refine bodyPost_end (results_none rfl _ _ _) rfl ?_
      refine ⟨rfl, .slice A3 (L.length + 1 - 1) c3, .slice A1 m c1, ?_⟩
      refine trim_fin EF.out E1.out E2.out HPU.out ?_ hrow3 ?_ hg3 hat3 ?_ ?_
      all_goals first | exact ⟨rfl, rfl, rfl, Nat.le_refl _, fun _ _ _ => rfl⟩ | (simp; done) | rfl
end Go.Proofs.Ytpmlbomkjegkgaa
