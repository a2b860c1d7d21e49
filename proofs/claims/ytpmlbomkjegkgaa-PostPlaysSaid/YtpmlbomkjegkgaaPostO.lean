/- A post, and a list beside it that tells its letters. -/
import Derived.Test.YtpmlbomkjegkgaaPostN
namespace Go.Proofs.Ytpmlbomkjegkgaa
open Go.RowKit Go.Proofs.YtpmlbomkjegkgaaW.PrintWords
set_option linter.unusedVariables false
/-- A letter's party and bytes. -/
def bare (p : Let) : Int × List Int := (p.1, p.2.2)
/-- A post whose letters are M1, and a row of letters M2. -/
structure Both (w0 w : World) (c : Nat) (v6 : Value) (M1 M2 : List (Int × List Int)) : Prop where
  ex : ∃ lv L L2, IsPost w c c lv L ∧ RowP w w0.heap.size 32 2 v6 L2.length (flat L2) ∧ (∀ p ∈ L2, RowP w w0.heap.size 5 1 p.2.1 p.2.2.length (p.2.2.map (Value.int .u8))) ∧ (∀ k, some k = v6.ownBlock → some k ≠ lv.ownBlock) ∧ L.map bare = M1 ∧ L2.map bare = M2
  below : Below w0.heap.size w0 w
  hc : w0.heap.size ≤ c
theorem RowP.type {w : World} {base : Nat} {e : TypeId} {size : Nat} {v : Value} {n : Nat} {xs : List Value} (h : RowP w base e size v n xs) : ∀ k, some k = v.ownBlock → ∃ cur, w.heap[k]? = some (.cells cur e (0, 0)) := by
  intro k hk
  obtain ⟨_, (⟨rfl, _⟩ | ⟨g, cap, cur, rfl, h1, hg, _⟩)⟩ := h
  · simp [Value.ownBlock] at hk
  · simp [Value.ownBlock] at hk; subst hk; exact ⟨cur, hg⟩
theorem RowP.ne2 {w : World} {base base' : Nat} {e e' : TypeId} {size size' : Nat} {v v' : Value} {n n' : Nat} {xs xs' : List Value} (h : RowP w base e size v n xs) (h' : RowP w base' e' size' v' n' xs') (he : e ≠ e') : ∀ k, some k = v.ownBlock → some k ≠ v'.ownBlock := by
  intro k hk hk'
  obtain ⟨c1, h1⟩ := h.type k hk
  obtain ⟨c2, h2⟩ := h'.type k hk'
  rw [h1] at h2
  injection h2 with h2
  injection h2 with _ h3
  exact he h3
variable {w0 w w' : World} {c : Nat} {v6 : Value} {M1 M2 : List (Int × List Int)}
/-- The post has turned. -/
theorem Both.post {lv lv' : Value} {L L' L2 : List Let} (hb : Below w0.heap.size w0 w) (hc : w0.heap.size ≤ c) (h : IsPost w c c lv L) (hr : RowP w w0.heap.size 32 2 v6 L2.length (flat L2)) (hl : ∀ p ∈ L2, RowP w w0.heap.size 5 1 p.2.1 p.2.2.length (p.2.2.map (Value.int .u8)))
    (ha : ∀ k, some k = v6.ownBlock → some k ≠ lv.ownBlock) (h' : IsPost w' c c lv' L') (k : Fr w w' (fun i => i = c ∨ some i = lv.ownBlock)) (hf : ∀ k, some k = lv'.ownBlock → some k = lv.ownBlock ∨ w.heap.size ≤ k) : Both w0 w' c v6 (L'.map bare) (L2.map bare) := by
  refine ⟨⟨lv', L', L2, h', hr.of (fun g hg => k.block g (hr.lt g hg).1 ?_), fun p hp => (hl p hp).of (fun g hg => k.block g ((hl p hp).lt g hg).1 ?_), fun g hg hg' => ?_, rfl, rfl⟩, hb.trans (k.below hb.size (fun i hi => ?_)), hc⟩
  · rintro (rfl | e)
    · exact hr.ne h.blk (by decide) hg
    · exact ha g hg e
  · rintro (rfl | e)
    · exact (hl p hp).ne h.blk (by decide) hg
    · exact (hl p hp).ne2 h.row (by decide) g hg e
  · rcases hf g hg' with e | e
    · exact ha g hg e
    · have := (hr.lt g hg).1; omega
  · rcases hi with rfl | hi
    · exact hc
    · exact Nat.le_trans hc (h.row.lt i hi).2
/-- The row has turned. -/
theorem Both.row {v6' : Value} {L2' : List Let} {S' : Nat → Prop} (h : Both w0 w c v6 M1 M2) (k : Fr w w' S') (hs : ∀ i, S' i → some i = v6.ownBlock ∨ w.heap.size ≤ i)
    (hr : RowP w' w0.heap.size 32 2 v6' L2'.length (flat L2')) (hl : ∀ p ∈ L2', RowP w w0.heap.size 5 1 p.2.1 p.2.2.length (p.2.2.map (Value.int .u8))) (hf : ∀ k, some k = v6'.ownBlock → some k = v6.ownBlock ∨ w.heap.size ≤ k) : Both w0 w' c v6' M1 (L2'.map bare) := by
  obtain ⟨lv, L, L2, h1, h2, h3, h4, rfl, rfl⟩ := h.ex
  have hbc := blk_lt h1.blk
  have hkeep : ∀ {e : TypeId} {size : Nat} {v : Value} {n b : Nat} {xs : List Value}, RowP w b e size v n xs → (e ≠ 32 ∨ (v = lv)) → RowP w' b e size v n xs := by
    intro e size v n b xs hv he
    refine hv.of (fun g hg => k.block g (hv.lt g hg).1 (fun hS => ?_))
    rcases hs g hS with e1 | e1
    · rcases he with he | rfl
      · exact hv.ne2 h2 he g hg e1
      · exact h4 g e1 hg
    · have := (hv.lt g hg).1; omega
  refine ⟨⟨lv, L, L2', ⟨k.at h1.blk (fun hS => ?_), hkeep h1.row (.inr rfl), fun p hp => hkeep (h1.let_ p hp) (.inl (by decide)), Nat.le_refl _⟩, hr, fun p hp => hkeep (hl p hp) (.inl (by decide)), fun g hg hg' => ?_, rfl, rfl⟩, h.below.trans (k.below h.below.size (fun i hi => ?_)), h.hc⟩
  · rcases hs c hS with e | e
    · exact h2.ne h1.blk (by decide) e
    · omega
  · rcases hf g hg with e | e
    · exact h4 g e hg'
    · have := (h1.row.lt g hg').1; omega
  · rcases hs i hi with e | e
    · exact (h2.lt i e).2
    · exact Nat.le_trans h.below.size e
theorem Both.belowed (h : Both w0 w c v6 M1 M2) (hb : Below w.heap.size w w') : Both w0 w' c v6 M1 M2 := by
  have h0 := h
  obtain ⟨lv, L, L2, h1, h2, h3, h4, rfl, rfl⟩ := h.ex
  exact h0.row (S' := fun _ => False) (Fr.of_below hb _) (fun _ h => h.elim) (h2.of (fun g hg => hb.block g (h2.lt g hg).1)) h3 (fun k hk => .inl hk)
theorem Both.still {V : World} (h : Both w0 w c v6 M1 M2) (e : V.heap = w.heap) (hb : Below V.heap.size w V) : Both w0 V c v6 M1 M2 :=
  h.belowed ⟨hb.os, hb.tape, hb.output, by rw [e]; exact Nat.le_refl _, fun i _ => by rw [e]⟩
theorem len_bare {L : List Let} {M : List (Int × List Int)} (h : L.map bare = M) : L.length = M.length := by rw [← h, List.length_map]
/-- Send. -/
theorem send_both (h : Both w0 w c v6 M1 M2) (hn : M1.length < 512) (t : Int) (m cap : Nat) (bs : List Int) (ad : Addr) (hbs : bs.length = m) (hm : m < 100000000) (hcell : ∀ j u, (bs.map (Value.int .u8))[j]? = some u → w.cell? (ad.add j) = some u) :
    Calls Try.prog 7 #[.pointer (some ⟨c, 0, none⟩), .int .u8 t, .slice (some ad) m cap] w fun e w' => e = .returned (.tuple #[]) ∧ Both w0 w' c v6 (M1 ++ [(t, bs)]) M2 := by
  obtain ⟨lv, L, L2, h1, h2, h3, h4, h5, h6⟩ := h.ex
  refine (send_any c m cap c t lv L bs ad w h1 (by rw [len_bare h5]; exact hn) (Nat.le_of_lt (blk_lt h1.blk)) hbs hm hcell).mono ?_
  rintro e w' ⟨rfl, lv', v', k1, k2, k3, k4⟩
  have := Both.post h.below h.hc h1 h2 h3 h4 k1 k2 k3
  rw [List.map_append, h5, h6] at this
  exact ⟨rfl, this⟩
/-- The place that a number names. -/
def plc (i : Int) (n : Nat) : Nat := ((i.tmod n + n).tmod n).toNat
theorem plc_of {i : Int} {n k : Nat} (h : (k : Int) = (i.tmod n + n).tmod n) : k = plc i n := by unfold plc; rw [← h]; rfl
/-- Take, of one that has letters. -/
theorem take_both (h : Both w0 w c v6 M1 M2) (hn : M1.length < 512) (h0 : 0 < M1.length) (i : Int) :
    Calls Try.prog 8 #[.pointer (some ⟨c, 0, none⟩), .int .i64 i] w fun e w' => ∃ (p : Int × List Int) (v : Value), M1[plc i M1.length]? = some p ∧ e = .returned (.tuple #[.agg #[.int .u8 p.1, v], .int .i64 0]) ∧ RowP w' c 5 1 v p.2.length (p.2.map (Value.int .u8)) ∧ Both w0 w' c v6 (M1.take (plc i M1.length) ++ M1.drop (plc i M1.length + 1)) M2 := by
  obtain ⟨lv, L, L2, h1, h2, h3, h4, h5, h6⟩ := h.ex
  have hL := len_bare h5
  refine (take_any c c i lv L w h1 (by omega) (by omega) (Nat.le_of_lt (blk_lt h1.blk))).mono ?_
  rintro e w' ⟨k, p, hk, hp, rfl, lv', k1, k2, k3⟩
  rw [hL] at hk
  obtain rfl := plc_of hk
  have := Both.post h.below h.hc h1 h2 h3 h4 k1 k2 k3
  rw [List.map_append, List.map_take, List.map_drop, h5, h6] at this
  refine ⟨bare p, p.2.1, ?_, rfl, h1.kept (List.mem_of_getElem? hp) k2, this⟩
  have e := congrArg (Option.map bare) hp
  rw [← List.getElem?_map, h5] at e
  exact e
theorem take_both0 (h : Both w0 w c v6 [] M2) (i : Int) : Calls Try.prog 8 #[.pointer (some ⟨c, 0, none⟩), .int .i64 i] w fun e w' => e = .returned (.tuple #[.agg #[.int .u8 0, .slice none 0 0], .int .i64 2]) ∧ Both w0 w' c v6 [] M2 := by
  have h0 := h
  obtain ⟨lv, L, L2, h1, h2, h3, h4, h5, h6⟩ := h.ex
  obtain rfl : L = [] := List.map_eq_nil_iff.1 h5
  obtain ⟨A, cap, hlv⟩ := h1.row.form
  have hb := h1.blk
  rw [hlv] at hb
  exact (take_none c cap A i w hb).mono fun e w' ⟨he, hB⟩ => ⟨he, h0.belowed hB⟩
theorem len_both (h : Both w0 w c v6 M1 M2) : Calls Try.prog 9 #[.pointer (some ⟨c, 0, none⟩)] w fun e w' => e = .returned (.int .i64 M1.length) ∧ w' = w := by
  obtain ⟨lv, L, L2, h1, h2, h3, h4, h5, h6⟩ := h.ex
  obtain ⟨A, cap, hlv⟩ := h1.row.form
  have hb := h1.blk
  rw [hlv] at hb
  rw [← len_bare h5]
  exact len_any c L.length cap A w hb
theorem double_both (h : Both w0 w c v6 M1 M2) (hn : M1.length < 512) (h0 : 0 < M1.length) (h1' : ∀ p ∈ M1, p.2.length = 1) (i : Int) :
    Calls Try.prog 10 #[.pointer (some ⟨c, 0, none⟩), .int .i64 i] w fun e w' => e = .returned (.int .i64 0) ∧ ∃ p, M1[plc i M1.length]? = some p ∧ Both w0 w' c v6 (M1 ++ [p]) M2 := by
  obtain ⟨lv, L, L2, h1, h2, h3, h4, h5, h6⟩ := h.ex
  have hL := len_bare h5
  refine (double_any c c i lv L w h1 (by omega) (by omega) (Nat.le_of_lt (blk_lt h1.blk)) (fun p hp => ?_)).mono ?_
  · have := h1' (bare p) (by rw [← h5]; exact List.mem_map_of_mem hp)
    simp only [bare] at this
    omega
  rintro e w' ⟨rfl, k, p, hk, hp, lv', v', k1, k2, k3, _⟩
  rw [hL] at hk
  obtain rfl := plc_of hk
  have := Both.post h.below h.hc h1 h2 h3 h4 k1 k2 k3
  rw [List.map_append, h5, h6] at this
  refine ⟨rfl, bare p, ?_, this⟩
  have e := congrArg (Option.map bare) hp
  rw [← List.getElem?_map, h5] at e
  exact e
theorem double_both0 (h : Both w0 w c v6 [] M2) (i : Int) : Calls Try.prog 10 #[.pointer (some ⟨c, 0, none⟩), .int .i64 i] w fun e w' => e = .returned (.int .i64 2) ∧ Both w0 w' c v6 [] M2 := by
  have h0 := Aside0.mk h
  obtain ⟨lv, L, L2, h1, h2, h3, h4, h5, h6⟩ := h.ex
  obtain rfl : L = [] := List.map_eq_nil_iff.1 h5
  obtain ⟨A, cap, hlv⟩ := h1.row.form
  have hb := h1.blk
  rw [hlv] at hb
  have HB := Aside0.mk hb
  clear h1 h2 h3 h4 h5 h6 hlv hb h
  go_enter Try.func10, Try.ntmps10
  go_wp2_with fail
  go_at_call 12
  refine (place_none c cap A i _ HB.out).mono ?_
  rintro e w1 ⟨rfl, rfl⟩
  go_wp2
  go_ret
  exact ⟨rfl, h0.out⟩
theorem lose_both (h : Both w0 w c v6 M1 M2) (hn : M1.length < 512) (h0 : 0 < M1.length) (i : Int) :
    Calls Try.prog 11 #[.pointer (some ⟨c, 0, none⟩), .int .i64 i] w fun e w' => e = .returned (.int .i64 0) ∧ Both w0 w' c v6 (M1.take (plc i M1.length) ++ M1.drop (plc i M1.length + 1)) M2 := by
  have H := Aside0.mk (take_both h hn h0 i)
  clear h hn h0
  go_enter Try.func11, Try.ntmps11
  go_wp2_with fail
  go_at_call 8
  refine H.out.mono ?_
  rintro e w1 ⟨p, v, _, rfl, hr, HB⟩
  have HB1 := Aside0.mk (HB.belowed (below_alloc (Below.refl _ _) (.cells #[.int .u8 p.1, v] 32)))
  have hone : v.oneCell' = true := by obtain ⟨A, cap, rfl⟩ := hr.form; rfl
  obtain ⟨A, cap, rfl⟩ := hr.form
  clear HB hr hone
  go_wp2
  go_ret
  exact ⟨rfl, HB1.out⟩
theorem lose_both0 (h : Both w0 w c v6 [] M2) (i : Int) : Calls Try.prog 11 #[.pointer (some ⟨c, 0, none⟩), .int .i64 i] w fun e w' => e = .returned (.int .i64 2) ∧ Both w0 w' c v6 [] M2 := by
  have H := Aside0.mk (take_both0 h i)
  clear h
  go_enter Try.func11, Try.ntmps11
  go_wp2_with fail
  go_at_call 8
  refine H.out.mono ?_
  rintro e w1 ⟨rfl, HB⟩
  have HB1 := Aside0.mk (HB.belowed (below_alloc (Below.refl _ _) (.cells #[.int .u8 0, .slice none 0 0] 32)))
  clear HB
  go_wp2
  go_ret
  exact ⟨rfl, HB1.out⟩
end Go.Proofs.Ytpmlbomkjegkgaa
