/- Take of a post. -/
import Derived.Test.YtpmlbomkjegkgaaPostC
namespace Go.Proofs.Ytpmlbomkjegkgaa
open Go.RowKit Go.Proofs.YtpmlbomkjegkgaaW.PrintWords
set_option linter.unusedVariables false

theorem place_at (c n cap : Nat) (A : Option Addr) (i : Int) (w : World) (hb : w.heap[c]? = some (.cells #[.slice A n cap] 27 (0, 0))) (hn : 0 < n) (hn2 : n < 100000) : Calls Try.prog 12 #[.pointer (some ⟨c, 0, none⟩), .int .i64 i] w fun e w' => ∃ k : Nat, e = .returned (.int .i64 k) ∧ k < n ∧ (k : Int) = (i.tmod n + n).tmod n ∧ w' = w := by
  refine (place_any c n cap A i w hb hn hn2).mono ?_
  rintro e w' ⟨rfl, rfl⟩
  have h1 := Int.tmod_lt_of_pos i (show (0:Int) < n by omega)
  have h2 := Int.lt_tmod_of_pos i (show (0:Int) < n by omega)
  have h3 := Int.tmod_nonneg n (show (0:Int) ≤ i.tmod n + n by omega)
  have h4 := Int.tmod_lt_of_pos (i.tmod n + n) (show (0:Int) < n by omega)
  obtain ⟨k, hk⟩ := Int.eq_ofNat_of_zero_le h3
  exact ⟨k, by rw [hk], by omega, hk.symm, rfl⟩
theorem flat_at {L : List Let} {k : Nat} {p : Let} (h : L[k]? = some p) : (flat L)[k * 2]? = some (.int .u8 p.1) ∧ (flat L)[k * 2 + 1]? = some p.2.1 := by
  induction L generalizing k with
  | nil => simp at h
  | cons q L ih =>
    cases k with
    | zero => simp at h; subst h; simp [flat]
    | succ k =>
      have := ih (k := k) (by simpa using h)
      have e : (k + 1) * 2 = k * 2 + 1 + 1 := by omega
      rw [e]
      simpa [flat] using this
theorem take_none (c cap : Nat) (A : Option Addr) (i : Int) (w : World) (hb : w.heap[c]? = some (.cells #[.slice A 0 cap] 27 (0, 0))) : Calls Try.prog 8 #[.pointer (some ⟨c, 0, none⟩), .int .i64 i] w fun e w' => e = .returned (.tuple #[.agg #[.int .u8 0, .slice none 0 0], .int .i64 2]) ∧ Below w.heap.size w w' := by
  go_enter Try.func8, Try.ntmps8
  go_wp2_with fail
  go_at_call 12
  refine (place_none c cap A i _ (blk_alloc hb _)).mono ?_
  rintro e w1 ⟨rfl, rfl⟩
  go_wp2
  refine bodyPost_ret (results_ct Try.results8 _ _ w.heap.size 32 #[.int .u8 0, .slice none 0 0] (0, 0) _ rfl ?hres Try.underlying32 rfl (by kernel_rfl)) rfl ?_
  case hres => exact blk_new w (.cells #[.int .u8 0, .slice none 0 0] 32)
  exact ⟨by rfl, below_alloc (Below.refl _ _) _⟩
theorem take_nil (i : Int) (w : World) : Calls Try.prog 8 #[.pointer none, .int .i64 i] w fun e w' => e = .returned (.tuple #[.agg #[.int .u8 0, .slice none 0 0], .int .i64 2]) ∧ Below w.heap.size w w' := by
  go_enter Try.func8, Try.ntmps8
  go_wp2_with fail
  go_at_call 12
  refine (place_nil i _).mono ?_
  rintro e w1 ⟨rfl, rfl⟩
  go_wp2
  refine bodyPost_ret (results_ct Try.results8 _ _ w.heap.size 32 #[.int .u8 0, .slice none 0 0] (0, 0) _ rfl ?hres Try.underlying32 rfl (by kernel_rfl)) rfl ?_
  case hres => exact blk_new w (.cells #[.int .u8 0, .slice none 0 0] 32)
  exact ⟨by rfl, below_alloc (Below.refl _ _) _⟩
theorem take_end {w W2 V2 w3 U : World} {base c g n cap k gn : Nat} {v3 : Value} {L : List Let} {p : Let} (hb : w.heap[c]? = some (.cells #[.slice (some ⟨g, 0, none⟩) n cap] 27 (0, 0))) (hlet : ∀ p ∈ L, RowP w base 5 1 p.2.1 p.2.2.length (p.2.2.map (Value.int .u8))) (hlo : base ≤ c) (hkp : L[k]? = some p)
    (hrow : RowP w base 32 2 (.slice (some ⟨g, 0, none⟩) n cap) L.length (flat L)) (hfr : Fr w W2 (fun i => i = c ∨ some i = (Value.slice (some ⟨g, 0, none⟩) n cap).ownBlock)) (hgn : gn = w.heap.size) (hgn2 : gn < W2.heap.size) (hcl : c < w.heap.size) (hgg : g < gn)
    (hrow3 : RowP w3 base 32 2 v3 (k + (L.length - (k + 1))) (flat (L.take k) ++ flat (L.drop (k + 1)))) (hV2 : Fr W2 V2 (fun _ => False)) (hg3 : Fr V2 w3 (fun i => some i = (Value.slice (some ⟨g, 0, none⟩) k k).ownBlock)) (hat3 : ∀ j, some j = v3.ownBlock → some j = (Value.slice (some ⟨g, 0, none⟩) k k).ownBlock ∨ W2.heap.size ≤ j)
    (hb3 : w3.heap[c]? = some (.cells #[.slice (some ⟨g, 0, none⟩) n cap] 27 (0, 0))) (hU : Fr (w3.setCell ⟨c, 0, none⟩ v3) U (fun i => i = gn)) :
    IsPost U base c v3 (L.take k ++ L.drop (k + 1)) ∧ Fr w U (fun i => i = c ∨ some i = (Value.slice (some ⟨g, 0, none⟩) n cap).ownBlock) ∧ (∀ k, some k = v3.ownBlock → some k = (Value.slice (some ⟨g, 0, none⟩) n cap).ownBlock ∨ w.heap.size ≤ k) := by
  have F1 := (hfr.trans (hV2.mono (fun _ h => h.elim))).trans' hg3 (fun i hi h => .inr (by simpa [Value.ownBlock] using h))
  have F2 := F1.set (p := ⟨c, 0, none⟩) (.inl (.inl rfl)) v3
  have F3 := F2.trans' hU (fun i hi h => by have h : i = gn := h; omega)
  have hkl : k < L.length := by
    by_cases h : k < L.length
    · exact h
    · rw [List.getElem?_eq_none (by omega)] at hkp; cases hkp
  have hnl : ∀ {base : Nat} {v : Value} {n : Nat} {xs : List Value}, RowP w base 5 1 v n xs → ∀ k, some k = v.ownBlock → ¬ (k = c ∨ some k = (Value.slice (some ⟨g, 0, none⟩) n cap).ownBlock) := by
    rintro base v n xs h k hk (rfl | hl)
    · exact h.ne hb (by decide) hk
    · obtain ⟨_, (⟨hq, _⟩ | ⟨g', cap', cur, hq, _, hg, _⟩)⟩ := hrow
      · cases hq
      · injection hq with hq _ _; injection hq with hq; injection hq with hq
        subst hq
        simp [Value.ownBlock] at hl; subst hl; exact h.ne hg (by decide) hk
  have hv3 : ∀ j, some j = v3.ownBlock → j = g ∨ W2.heap.size ≤ j := fun j hj => (hat3 j hj).imp (fun h => by simpa [Value.ownBlock] using h) id
  refine ⟨⟨?_, ?_, fun q hq => ?_, hlo⟩, F3, fun j hj => ?_⟩
  · exact hU.at (blk_put hb3 0 v3 rfl) (fun e => by have e : c = gn := e; omega)
  · rw [flat_app, show (L.take k ++ L.drop (k + 1)).length = k + (L.length - (k + 1)) by rw [List.length_append, List.length_take, List.length_drop, Nat.min_eq_left (by omega)]]
    refine hrow3.of (fun j hj => ?_)
    have h1 := hv3 j hj
    have h2 := (hrow3.lt j hj).1
    rw [hU.block j (by simpa [World.setCell] using h2) (fun e => by have e : j = gn := e; omega)]
    exact Below.heap_setCell w3 _ _ j (fun e => hrow3.ne hb3 (by decide) (by rw [show c = j from e.symm]; exact hj))
  · have hm : q ∈ L := by
      rcases List.mem_append.1 hq with h | h
      · exact List.mem_of_mem_take h
      · exact List.mem_of_mem_drop h
    exact (hlet q hm).of (fun j hj => F3.block j ((hlet q hm).lt j hj).1 (hnl (hlet q hm) j hj))
  · rcases hv3 j hj with rfl | h
    · exact .inl (by simp [Value.ownBlock])
    · exact .inr (by omega)
set_option maxHeartbeats 4000000 in
theorem take_any (c base : Nat) (i : Int) (lv : Value) (L : List Let) (w : World) (H : IsPost w base c lv L) (hL : L.length < 1000) (hp : 0 < L.length) (hbase : base ≤ w.heap.size) :
    Calls Try.prog 8 #[.pointer (some ⟨c, 0, none⟩), .int .i64 i] w fun e w' => ∃ (k : Nat) (p : Let), (k : Int) = (i.tmod L.length + L.length).tmod L.length ∧ L[k]? = some p ∧ e = .returned (.tuple #[.agg #[.int .u8 p.1, p.2.1], .int .i64 0]) ∧ ∃ lv', IsPost w' base c lv' (L.take k ++ L.drop (k + 1)) ∧ Fr w w' (fun i => i = c ∨ some i = lv.ownBlock) ∧
      (∀ k, some k = lv'.ownBlock → some k = lv.ownBlock ∨ w.heap.size ≤ k) := by
  obtain ⟨hb, hrow, hlet, hlo⟩ := H
  obtain ⟨A, cap, rfl⟩ := hrow.form
  go_enter Try.func8, Try.ntmps8
  go_wp2_with fail
  go_at_call 12
  refine (place_at c L.length cap A i _ (blk_alloc hb _) hp (by omega)).mono ?_
  rintro e w1 ⟨k, rfl, hk, hki, rfl⟩
  obtain ⟨p, hkp⟩ : ∃ p, L[k]? = some p := ⟨_, List.getElem?_eq_getElem hk⟩
  obtain ⟨pt, pv, pb⟩ := p
  obtain ⟨A1, c1, hpv⟩ := (hlet _ (List.mem_of_getElem? hkp)).form
  dsimp only at hpv
  subst hpv
  obtain ⟨f0, f1⟩ := flat_at hkp
  dsimp only at f0 f1
  obtain ⟨g, cap', hA, hg0, hg1, hcell⟩ := hrow.cells hp
  injection hA with hA _ hcap
  subst hA hcap
  obtain ⟨W, hW⟩ : ∃ W, W = w.alloc (.cells #[.int .u8 0, .slice none 0 0] 32) := ⟨_, rfl⟩
  have hbW : W.heap[c]? = some (.cells #[.slice (some ⟨g, 0, none⟩) L.length cap] 27 (0, 0)) := by rw [hW]; exact blk_alloc hb _
  have hnW : W.heap[w.heap.size]? = some (.cells #[.int .u8 0, .slice none 0 0] 32 (0, 0)) := by rw [hW]; exact blk_new _ _
  have hrowW : RowP W base 32 2 (.slice (some ⟨g, 0, none⟩) L.length cap) L.length (flat L) := by rw [hW]; exact hrow.of (fun j hj => Below.heap_alloc w _ j (hrow.lt j hj).1)
  have x0 : W.cell? ⟨g, k * 2, none⟩ = some (.int .u8 pt) := by obtain ⟨g', cap'', hA, _, _, h⟩ := hrowW.cells hp; injection hA with hA _ _; injection hA with hA; injection hA with hA; subst hA; exact h _ _ f0
  have x1 : W.cell? ⟨g, k * 2 + 1, none⟩ = some (.slice A1 pb.length c1) := by obtain ⟨g', cap'', hA, _, _, h⟩ := hrowW.cells hp; injection hA with hA _ _; injection hA with hA; injection hA with hA; subst hA; exact h _ _ f1
  have hfr : Fr w W (fun i => i = c ∨ some i = (Value.slice (some ⟨g, 0, none⟩) L.length cap).ownBlock) := by rw [hW]; exact (Fr.refl _ _).alloc _
  have hWs : w.heap.size < W.heap.size := by rw [hW]; simp
  have hcl := blk_lt hb
  obtain ⟨gn, hgn⟩ : ∃ gn, gn = w.heap.size := ⟨_, rfl⟩
  rw [← hW, ← hgn]
  rw [← hgn] at hnW hWs
  have HP := Aside0.mk hki
  have HW := Aside0.mk hW
  have HG := Aside0.mk hgn
  clear hki hW hgn
  obtain ⟨hc, hf⟩ := cell1 hbW
  obtain ⟨hn0, hn1, hnf⟩ := cells2 hnW
  have k1 : (k : Int) < L.length := by omega
  have k2 : ¬ (k : Int) < 0 := by omega
  go_wp2
  obtain ⟨W2, hW2⟩ : ∃ W2, W2 = W.alloc (.cells #[.int .u8 pt, .slice A1 pb.length c1] 32) := ⟨_, rfl⟩
  obtain ⟨gx, hgx⟩ : ∃ gx, gx = W.heap.size := ⟨_, rfl⟩
  have hgx1 : gx < W2.heap.size := by rw [hW2, hgx]; simp
  have hb2 : W2.heap[c]? = some (.cells #[.slice (some ⟨g, 0, none⟩) L.length cap] 27 (0, 0)) := by rw [hW2]; exact blk_alloc hbW _
  have hn2 : W2.heap[gn]? = some (.cells #[.int .u8 0, .slice none 0 0] 32 (0, 0)) := by rw [hW2]; exact blk_alloc hnW _
  have hx2 : W2.heap[gx]? = some (.cells #[.int .u8 pt, .slice A1 pb.length c1] 32 (0, 0)) := by rw [hW2, hgx]; exact blk_new _ _
  have hrow2 : RowP W2 base 32 2 (.slice (some ⟨g, 0, none⟩) L.length cap) L.length (flat L) := by rw [hW2]; exact hrowW.of (fun j hj => Below.heap_alloc W _ j (hrowW.lt j hj).1)
  have hfr2 : Fr w W2 (fun i => i = c ∨ some i = (Value.slice (some ⟨g, 0, none⟩) L.length cap).ownBlock) := by rw [hW2]; exact hfr.alloc _
  rw [← hW2, ← hgx]
  have HX : Aside0 (gn < gx ∧ c < gn ∧ g < gn) := ⟨by rw [hgx, HG.out]; exact ⟨by rw [← HG.out]; exact hWs, hcl, hg1⟩⟩
  clear hW2 hgx hc hf hn0 hn1 hnf x0 x1 hbW hnW hrowW hfr HW hWs
  clear W
  obtain ⟨hc, hf⟩ := cell1 hb2
  obtain ⟨hn0, hn1, hnf⟩ := cells2 hn2
  obtain ⟨hx0, hx1, hxf⟩ := cells2 hx2
  obtain ⟨i0, hi, hz0, hz1, hz2⟩ := info_parts info32
  have k3 : (k : Int) ≤ cap := by
    obtain ⟨_, (⟨hq, _⟩ | ⟨g', cap', cur, hq, h2, h3, h4, h5⟩)⟩ := hrow2
    · cases hq
    · injection hq with _ _ hq; omega
  have k4 : (k : Int) + 1 ≤ L.length := by omega
  have k5 : (L.length : Int) ≤ cap := by
    obtain ⟨_, (⟨hq, _⟩ | ⟨g', cap', cur, hq, h2, h3, h4, h5⟩)⟩ := hrow2
    · cases hq
    · injection hq with _ _ hq; omega
  have k6 : ((k : Int) + 1).toNat = k + 1 := by omega
  have k7 : IntKind.i64.wrap ((k : Int) + 1) = ((k + 1 : Nat) : Int) := by
    rw [IntKind.wrap_i64]; omega
  have k9 : 0 ≤ (k : Int) + 1 := by omega
  have k8 : ((k + 1 : Nat) : Int) ≤ L.length := by omega
  obtain ⟨ad, had, had2⟩ : ∃ ad : Addr, (if cap = k + 1 then some (⟨g, 0, none⟩ : Addr) else some ⟨g, (k + 1) * 2, none⟩) = some ad ∧ (k + 1 < L.length → ad = ⟨g, (k + 1) * 2, none⟩) := by
    by_cases h : cap = k + 1
    · exact ⟨_, if_pos h, fun h2 => by omega⟩
    · exact ⟨_, if_neg h, fun _ => rfl⟩
  have hrk : RowP W2 base 32 2 (.slice (some ⟨g, 0, none⟩) k k) k (flat (L.take k)) := by
    obtain ⟨h0, (⟨hq, _⟩ | ⟨g', cap', cur, hq, h2, h3, h4, h5, h6, h7⟩)⟩ := hrow2
    · cases hq
    · injection hq with hq _ hq2
      injection hq with hq; injection hq with hq
      subst hq hq2
      refine ⟨by rw [flat_len, List.length_take]; omega, .inr ⟨g, k, cur, rfl, h2, h3, Nat.le_refl _, by omega, by omega, ?_⟩⟩
      have e : L = L.take k ++ L.drop k := (List.take_append_drop k L).symm
      have e2 : (flat L).take (k * 2) = flat (L.take k) := by
        conv => lhs; rw [e, flat_app]
        exact List.take_left' (by rw [flat_len, List.length_take]; omega)
      rw [← e2, ← h7, List.take_take, Nat.min_eq_left (by omega)]
  have hnews : ∀ j u, (flat (L.drop (k + 1)))[j]? = some u → W2.cell? (ad.add j) = some u := by
    intro j u hj
    have hk1 : k + 1 < L.length := by
      by_cases h : k + 1 < L.length
      · exact h
      · rw [List.drop_eq_nil_of_le (by omega)] at hj; simp [flat] at hj
    obtain ⟨g', cap', hq, _, _, h⟩ := hrow2.cells hp
    injection hq with hq _ _; injection hq with hq; injection hq with hq
    subst hq
    rw [had2 hk1]
    rw [show (⟨g, (k + 1) * 2, none⟩ : Addr).add j = ⟨g, (k + 1) * 2 + j, none⟩ by simp [Addr.add]]
    refine h _ _ ?_
    have e : L = L.take (k + 1) ++ L.drop (k + 1) := (List.take_append_drop (k + 1) L).symm
    rw [e, flat_app, List.getElem?_append_right (by rw [flat_len, List.length_take]; omega), flat_len, List.length_take]
    rw [show (k + 1) * 2 + j - min (k + 1) L.length * 2 = j by rw [Nat.min_eq_left (by omega)]; omega]
    exact hj
  have hone : ∀ u ∈ flat (L.drop (k + 1)), u.oneCell' = true := by
    intro u hu
    obtain ⟨q, hq, hu⟩ := List.mem_flatMap.1 hu
    obtain ⟨A', c', hf⟩ := (hlet q (List.mem_of_mem_drop hq)).form
    simp only [List.mem_cons, List.not_mem_nil, or_false] at hu
    rcases hu with rfl | rfl
    · rfl
    · rw [hf]; rfl
  have HM1 : Aside0 ((flat (L.drop (k + 1))).length = (L.length - (k + 1)) * 2) := ⟨by rw [flat_len, List.length_drop]⟩
  have HM2 : Aside0 (k + (L.length - (k + 1)) ≤ maxLen) := ⟨by unfold maxLen; omega⟩
  have HM3 : Aside0 ((k + (L.length - (k + 1))) * 32 ≤ 140737488355328) := ⟨by omega⟩
  have HM4 : Aside0 (base ≤ W2.heap.size) := ⟨Nat.le_trans hbase hfr2.size⟩
  have HN := Aside0.mk hnews
  have HO := Aside0.mk hone
  have HR := Aside0.mk hrk
  have HLT := Aside0.mk hlet
  have HFR := Aside0.mk hfr2
  have HROW := Aside0.mk hrow
  have HROW2 := Aside0.mk hrow2
  clear hnews hone hrk had2 hlet hfr2 hrow hrow2 hcell
  go_region_law (refine step_append_p rfl (.tmp 28) (.tmp 35) 25 rfl base 32 i0 _ 2 32 Try.underlying25 hi hz0 hz1 hz2 rfl Nat.zero_lt_two (.slice (some ⟨g, 0, none⟩) k k) k (flat (L.take k)) rfl HR.out ad (L.length - (k + 1)) (cap - (k + 1)) (flat (L.drop (k + 1))) rfl HM1.out HN.out HO.out HM2.out HM3.out HM4.out ?_
                 intro v3 w3 hrow3 hg3 hat3
                 obtain ⟨A3, c3, rfl⟩ := hrow3.form
                 have hb3 : w3.heap[c]? = some (.cells #[.slice (some ⟨g, 0, none⟩) L.length cap] 27 (0, 0)) := hg3.at hb2 (HR.out.ne hb2 (by decide))
                 clear hc hf
                 obtain ⟨hc, hf⟩ := cell1 hb3)
  all_goals
    have hc3 := blk_lt hb3
    have hgk : some gn ≠ (Value.slice (some ⟨g, 0, none⟩) k k).ownBlock := by have := HX.out; simp [Value.ownBlock]; omega
    have hxk : some gx ≠ (Value.slice (some ⟨g, 0, none⟩) k k).ownBlock := by have := HX.out; simp [Value.ownBlock]; omega
    have hn3 := hg3.at hn2 hgk
    have hx3 := hg3.at hx2 hxk
    clear hn0 hn1 hnf hx0 hx1 hxf hc hf
    obtain ⟨U, hU⟩ : ∃ U, U = w3.setCell ⟨c, 0, none⟩ (.slice A3 (k + (L.length - (k + 1))) c3) := ⟨_, rfl⟩
    have hn4 : U.heap[gn]? = some (.cells #[.int .u8 0, .slice none 0 0] 32 (0, 0)) := by rw [hU]; exact blk_far (p := ⟨c, 0, none⟩) hn3 (show gn ≠ c by have := HX.out; omega) _
    have hx4 : U.heap[gx]? = some (.cells #[.int .u8 pt, .slice A1 pb.length c1] 32 (0, 0)) := by rw [hU]; exact blk_far (p := ⟨c, 0, none⟩) hx3 (show gx ≠ c by have := HX.out; omega) _
    have E1 := Aside0.mk hrow3
    have E2 := Aside0.mk hg3
    have E3 := Aside0.mk hat3
    have E4 := Aside0.mk hU
    have E5 := Aside0.mk hb3
    rw [← hU]
    clear hrow3 hg3 hat3 hU hb3
    obtain ⟨hn0, hn1, hnf⟩ := cells2 hn4
    obtain ⟨hx0, hx1, hxf⟩ := cells2 hx4
    have hgx4 := blk_lt hx4
    go_wp2
    refine bodyPost_ret (results_ct Try.results8 _ _ gn 32 #[.int .u8 pt, .slice A1 pb.length c1] (0, 0) _ rfl ?hres Try.underlying32 rfl (by kernel_rfl)) rfl ?_
    case hres => exact blk_put (blk_put hn4 0 _ rfl) 1 _ rfl
    refine ⟨k, (pt, .slice A1 pb.length c1, pb), HP.out, hkp, by rfl, .slice A3 (k + (L.length - (k + 1))) c3, ?_⟩
    refine take_end (gn := gn) hb HLT.out hlo hkp HROW.out HFR.out HG.out (by have := HX.out; omega) hcl HX.out.2.2 E1.out ?_ E2.out E3.out E5.out ?_
    · exact ⟨rfl, rfl, rfl, Nat.le_refl _, fun _ _ _ => rfl⟩
    · rw [← E4.out]
      exact ((Fr.refl U (fun i => i = gn)).set (p := ⟨gn, 0, none⟩) (.inl rfl) _).set (p := ⟨gn, 1, none⟩) (.inl rfl) _
end Go.Proofs.Ytpmlbomkjegkgaa
