/- CartFirst: what was said first to a trip holds. -/
import Derived.Test.YtmenfodphooacaaCartE
import Derived.LoopTactic
import Derived.Deep.DeepCutAuto
import Derived.Deep.RegionHeld3
namespace Go.Proofs.Ytmenfodphooacaa
open Go.RowKit Go.Maps Go.Proofs.YtmenfodphooacaaW.PrintWords
set_option linter.unusedVariables false

/-- A row of numbers that came in. -/
structure RowIn (k : IntKind) (w : World) (a : Option Addr) (len : Nat) (zs : List Int) : Prop where
  long : zs.length = len
  wf : ∀ n ∈ zs, (Lit.int k n).wf = true
  cell : ∀ i, i < len → ∃ x, a = some x ∧ w.cell? (x.add i) = some (.int k (zs.getD i 0))
theorem RowIn.at {k : IntKind} {w : World} {a : Option Addr} {len : Nat} {zs : List Int} (h : RowIn k w a len zs) {w' : World} (hb : Below w.heap.size w w') (i : Nat) (hi : i < len) : ∃ x, a = some x ∧ w'.cell? (x.add i) = some (.int k (zs.getD i 0)) := by
  obtain ⟨x, h1, h2⟩ := h.cell i hi
  refine ⟨x, h1, ?_⟩
  rw [hb.cell (World.block_lt_of_cell? w _ h2)]
  exact h2
theorem RowIn.wf_at {k : IntKind} {w : World} {a : Option Addr} {len : Nat} {zs : List Int} (h : RowIn k w a len zs) (i : Nat) (hi : i < len) : (Lit.int k (zs.getD i 0)).wf = true :=
  h.wf _ (by rw [List.getD_eq_getElem?_getD, List.getElem?_eq_getElem (by rw [h.long]; exact hi)]; exact List.getElem_mem _)

theorem Fr.drew {a w : World} {S : Nat → Prop} (h : Fr a w S) : Fr a w.drew S := ⟨h.os, h.tape, h.output, h.size, h.block⟩
theorem IsCart.drew {w : World} {base c n : Nat} {f : Int → Int → Option Int} {l : List (Int × Int)} {S : Nat → Prop} (h : IsCart w base c f l n S) : IsCart w.drew base c f l n S := ⟨h.ex, h.small, h.lo, h.hi⟩
abbrev z6 : Obj := .cells #[.int .u8 0, .int .i64 0, .int .i64 0, .int .i64 0, .int .i64 0, .int .u8 0] 30
/-- A cart, and blocks beside it. -/
structure Heard (w0 w : World) (base c : Nat) (f : Int → Int → Option Int) (l : List (Int × Int)) (n : Nat) (G : List (Nat × Obj)) : Prop where
  ex : ∃ S, IsCart w base c f l n S ∧ (∀ p ∈ G, ¬ S p.1) ∧ ∀ i, S i → w0.heap.size ≤ i
  blk : ∀ p ∈ G, w.heap[p.1]? = some p.2
  below : Below w0.heap.size w0 w
  hb : base ≤ w.heap.size
abbrev bx6 (k s y t a d : Int) : Obj := .cells #[.int .u8 k, .int .i64 s, .int .i64 y, .int .i64 t, .int .i64 a, .int .u8 d] 30
theorem heard_a {w0 w2 w3 : World} {base c n : Nat} {f : Int → Int → Option Int} {l : List (Int × Int)} {S S3 : Nat → Prop} {G : List (Nat × Obj)} {o : Obj} (C3 : IsCart w3 base c f l n S3) (F3 : Fr w2.drew w3 S) (hS3 : ∀ i, S3 i → S i ∨ w2.drew.heap.size ≤ i) (B : Below w0.heap.size w0 w2) (nS : ∀ p ∈ G, ¬ S p.1)
    (q : ∀ p ∈ G, w2.heap[p.1]? = some p.2) (hS : ∀ i, S i → w0.heap.size ≤ i) (hb : base ≤ w2.heap.size) : Heard w0 (w3.alloc o) base c f l n ((w3.heap.size, o) :: G) := by
  have hsz : w2.heap.size ≤ w3.heap.size := F3.size
  have hB : Below w0.heap.size w0 w3 := B.trans ((F3.below (B := w0.heap.size) B.size hS : Below _ w2.drew w3) |> fun h => ⟨h.os, h.tape, h.output, h.size, h.block⟩)
  refine ⟨⟨S3, C3.alloc _, fun p hp h => ?_, fun i hi => ?_⟩, fun p hp => ?_, below_alloc hB _, ?_⟩
  · rcases List.mem_cons.1 hp with rfl | hp
    · have := C3.hi _ h; simp at this
    · have := blk_lt (q p hp)
      rcases hS3 _ h with h | h
      · exact nS p hp h
      · have h : w2.heap.size ≤ p.1 := h; omega
  · rcases hS3 _ hi with h | h
    · exact hS _ h
    · exact Nat.le_trans B.size h
  · rcases List.mem_cons.1 hp with rfl | hp
    · exact blk_new _ _
    · exact blk_alloc (F3.at (show w2.drew.heap[p.1]? = _ from q p hp) (nS p hp)) _
  · simp; omega
theorem heard_b {w0 w2 w3 : World} {base c n : Nat} {f : Int → Int → Option Int} {l : List (Int × Int)} {S S3 : Nat → Prop} {G : List (Nat × Obj)} {s y t a u v : Int} (C3 : IsCart w3 base c f l n S3) (F3 : Fr (w2.alloc z6).drew w3 S) (hS3 : ∀ i, S3 i → S i ∨ (w2.alloc z6).drew.heap.size ≤ i) (B : Below w0.heap.size w0 w2) (nS : ∀ p ∈ G, ¬ S p.1) (nS2 : ¬ S w2.heap.size)
    (q : ∀ p ∈ G, w2.heap[p.1]? = some p.2) (hS : ∀ i, S i → w0.heap.size ≤ i) (hb : base ≤ w2.heap.size) :
    Heard w0 ((((((w3.setCell ⟨w2.heap.size, 0, none⟩ (.int .u8 v)).setCell ⟨w2.heap.size, 1, none⟩ (.int .i64 s)).setCell ⟨w2.heap.size, 2, none⟩ (.int .i64 y)).setCell ⟨w2.heap.size, 3, none⟩ (.int .i64 t)).setCell ⟨w2.heap.size, 4, none⟩ (.int .i64 a)).setCell ⟨w2.heap.size, 5, none⟩ (.int .u8 u)) base c f l n ((w2.heap.size, bx6 v s y t a u) :: G) := by
  have hsz' : (w2.alloc z6).heap.size ≤ w3.heap.size := F3.size
  have hsz : w2.heap.size < w3.heap.size := by simp at hsz'; omega
  have B2 : Below w0.heap.size w0 (w2.alloc z6).drew := (below_alloc B z6).drew
  have hB : Below w0.heap.size w0 w3 := B2.trans (F3.below B2.size hS)
  have n1 : ¬ S3 w2.heap.size := fun h => (hS3 _ h).elim nS2 (fun h => by have h : (w2.alloc z6).heap.size ≤ w2.heap.size := h; simp at h; omega)
  have e2 := F3.at (show (w2.alloc z6).drew.heap[w2.heap.size]? = some z6 from blk_new w2 z6) nS2
  have k : Fr w3 ((((((w3.setCell ⟨w2.heap.size, 0, none⟩ (.int .u8 v)).setCell ⟨w2.heap.size, 1, none⟩ (.int .i64 s)).setCell ⟨w2.heap.size, 2, none⟩ (.int .i64 y)).setCell ⟨w2.heap.size, 3, none⟩ (.int .i64 t)).setCell ⟨w2.heap.size, 4, none⟩ (.int .i64 a)).setCell ⟨w2.heap.size, 5, none⟩ (.int .u8 u)) (fun i => i = w2.heap.size) :=
    ((((((Fr.refl w3 (fun i => i = w2.heap.size)).set (p := ⟨w2.heap.size, 0, none⟩) (.inl rfl) _).set (p := ⟨w2.heap.size, 1, none⟩) (.inl rfl) _).set (p := ⟨w2.heap.size, 2, none⟩) (.inl rfl) _).set (p := ⟨w2.heap.size, 3, none⟩) (.inl rfl) _).set (p := ⟨w2.heap.size, 4, none⟩) (.inl rfl) _).set (p := ⟨w2.heap.size, 5, none⟩) (.inl rfl) _
  refine ⟨⟨S3, C3.kept k (fun i hi e => n1 (by rw [← show i = w2.heap.size from e]; exact hi)), fun p hp h => ?_, fun i hi => ?_⟩, fun p hp => ?_, hB.trans (k.below hB.size (fun i hi => by rw [show i = w2.heap.size from hi]; exact B.size)), ?_⟩
  · rcases List.mem_cons.1 hp with rfl | hp
    · exact n1 h
    · have := blk_lt (q p hp)
      rcases hS3 _ h with h | h
      · exact nS p hp h
      · have h : (w2.alloc z6).heap.size ≤ p.1 := h; simp at h; omega
  · rcases hS3 _ hi with h | h
    · exact hS _ h
    · have h : (w2.alloc z6).heap.size ≤ i := h; have := B.size; simp at h; omega
  · rcases List.mem_cons.1 hp with rfl | hp
    · exact put6 e2
    · have := blk_lt (q p hp)
      exact k.at (F3.at (show (w2.alloc z6).drew.heap[p.1]? = _ from blk_alloc (q p hp) z6) (nS p hp)) (fun e => by have e : p.1 = w2.heap.size := e; omega)
  · have := k.size; omega

set_option maxHeartbeats 4000000 in
theorem first_any (k s y t a d : Int) (A : Option Addr) (len cap : Nat) (zs : List Int) (w : World) (hs : (Lit.int .i64 s).wf = true) (hy : (Lit.int .i64 y).wf = true) (hr : RowIn .u8 w A len zs) (hlen : len ≤ 140737488351232) :
    Calls Try.prog 5 #[nt k s y t a d, .slice A len cap] w fun e w' => e = .returned (.bool true) ∧ Below w.heap.size w w' := by
  have HR := Aside0.mk hr
  have HS := Aside0.mk hs
  have HY := Aside0.mk hy
  clear hr hs hy
  by_cases hl : ((len : Int) == 0) = true
  · go_enter Try.func5, Try.ntmps5
    go_wp2_with fail
    go_at_call 6
    refine (awake_any _).mono ?_
    rintro e w1 ⟨rfl, hB1⟩
    have HB1 := Aside0.mk hB1
    clear hB1
    go_wp2_with fail
    go_at_call 6
    refine (awake_any _).mono ?_
    rintro e w2 ⟨rfl, hB2⟩
    have HB2 := Aside0.mk hB2
    clear hB2
    go_wp2
    go_ret
    exact ⟨rfl, (below_alloc (Below.refl _ _) _).trans ((HB1.out.trans (HB2.out.mono HB1.out.size)).mono (by simp))⟩
  have hl : ((len : Int) == 0) = false := by simpa using hl
  by_cases hg : 30 < len
  · go_enter Try.func5, Try.ntmps5
    go_wp2_with fail
    go_at_call 6
    refine (awake_any _).mono ?_
    rintro e w1 ⟨rfl, hB1⟩
    have HB1 := Aside0.mk hB1
    clear hB1
    go_wp2_with fail
    go_at_call 6
    refine (awake_any _).mono ?_
    rintro e w2 ⟨rfl, hB2⟩
    have HB2 := Aside0.mk hB2
    clear hB2
    go_wp2
    go_ret
    exact ⟨rfl, (below_alloc (Below.refl _ _) _).trans ((HB1.out.trans (HB2.out.mono HB1.out.size)).mono (by simp))⟩
  have hp : 0 < len := by
    have : (len : Int) ≠ 0 := by simpa using hl
    omega
  go_enter Try.func5, Try.ntmps5
  go_wp2_with fail
  go_at_call 6
  refine (awake_any _).mono ?_
  rintro e w1 ⟨rfl, hB1⟩
  have q0 := blk_below (blk_new w (.cells #[.int .u8 k, .int .i64 s, .int .i64 y, .int .i64 t, .int .i64 a, .int .u8 d] 30)) hB1
  obtain ⟨g, hg0⟩ : ∃ g, g = w.heap.size := ⟨_, rfl⟩
  have B1 : Below w.heap.size w w1 := (below_alloc (Below.refl _ _) _).trans (hB1.mono (by simp))
  clear hB1
  have HG := Aside0.mk hg0
  rw [← hg0] at q0 ⊢
  clear hg0
  obtain ⟨hn0, hn1, hn2, hn3, hn4, hn5, hnf⟩ := cells6 q0
  go_wp2_with fail
  go_at_call 7
  have q1 := blk_put (blk_put q0 0 (.int .u8 5) rfl) 5 (.int .u8 0) rfl
  obtain ⟨W1, hW1⟩ : ∃ W, W = (w1.setCell ⟨g, 0, none⟩ (.int .u8 5)).setCell ⟨g, 5, none⟩ (.int .u8 0) := ⟨_, rfl⟩
  have B2 : Below w.heap.size w W1 := by rw [hW1]; exact (B1.setCell (p := ⟨g, 0, none⟩) (by rw [HG.out]; exact Nat.le_refl _) _).setCell (p := ⟨g, 5, none⟩) (by rw [HG.out]; exact Nat.le_refl _) _
  rw [← hW1] at q1 ⊢
  clear hW1 B1 q0 hn0 hn1 hn2 hn3 hn4 hn5 hnf
  clear w1
  have hg1 := blk_lt q1
  refine (new_cart (base := W1.heap.size) W1 (Nat.le_refl _)).mono ?_
  rintro e w2 ⟨c, S, rfl, HC, hB, hS⟩
  have q2 := blk_below q1 hB
  have B3 := B2.trans (hB.mono B2.size)
  have nS : ¬ S g := fun h => by have := hS _ h; omega
  have hS' : ∀ i, S i → w.heap.size ≤ i := fun i h => Nat.le_trans B2.size (hS i h)
  obtain ⟨base, hbase⟩ : ∃ b, b = W1.heap.size := ⟨_, rfl⟩
  have hbw : base ≤ w2.heap.size := by rw [hbase]; exact hB.size
  rw [← hbase] at HC
  clear hbase hg1 q1 B2 hB hS
  clear W1
  obtain ⟨hn0, hn1, hn2, hn3, hn4, hn5, hnf⟩ := cells6 q2
  obtain ⟨x, rfl, hx⟩ := HR.out.at B3 0 hp
  have HV := Aside0.mk (rfl : zs.getD 0 0 = zs.getD 0 0)
  obtain ⟨v, hv⟩ : ∃ v, v = zs.getD 0 0 := ⟨_, rfl⟩
  rw [← hv, Addr.add_zero'] at hx
  have hgl := blk_lt q2
  have hxl := World.block_lt_of_cell? w2 _ hx
  have HVV := Aside0.mk hv
  have HB3 := Aside0.mk B3
  have HS' := Aside0.mk hS'
  have HB0 := Aside0.mk hbw
  have NG : Aside0 (¬ S g) := ⟨nS⟩
  have NX : Aside0 (¬ S x.block) := ⟨fun h => by have := hS' _ h; obtain ⟨x', e1, e2⟩ := HR.out.cell 0 hp; cases e1; have := World.block_lt_of_cell? w _ e2; rw [add_block] at this; omega⟩
  have Q2 := Aside0.mk q2
  have Q2L : Aside0 (∀ p ∈ [(g, bx6 5 s y t a 0)], w2.heap[p.1]? = some p.2) := ⟨fun p hp => by simp at hp; subst hp; exact q2⟩
  have NGL : Aside0 (∀ p ∈ [(g, bx6 5 s y t a 0)], ¬ S p.1) := ⟨fun p hp => by simp at hp; subst hp; exact nS⟩
  have ne1 : g ≠ w2.heap.size := Nat.ne_of_lt hgl
  have ne2 : w2.heap.size ≠ g := Nat.ne_of_gt hgl
  have ne3 : x.block ≠ w2.heap.size := Nat.ne_of_lt hxl
  have ne4 : w2.heap.size ≠ x.block := Nat.ne_of_gt hxl
  have HX2 := Aside0.mk hx
  have NS2 : Aside0 (¬ S w2.heap.size) := ⟨fun h => by have := HC.hi _ h; omega⟩
  have HBW : Aside0 (base ≤ w2.drew.heap.size) := ⟨hbw⟩
  have HBX : Aside0 (base ≤ (w2.alloc z6).drew.heap.size) := ⟨Nat.le_trans hbw (by show w2.heap.size ≤ (w2.alloc z6).heap.size; simp)⟩
  clear hv HV
  go_upto_region 6 with fail
  go_cut [6, 7] (fun v6 v7 wc => ∃ g6 : Nat, v6 = .pointer (some ⟨g6, 0, none⟩) ∧ v7 = .bool true ∧ Aside0 (Heard w wc base c (upd (fun _ _ => none) s y (if v = 1 then 1 else 3)) (if v = 1 then [(s, y)] else []) 1 [(g6, bx6 5 s y t a (if v = 1 then 1 else 3)), (g, bx6 5 s y t a 0)]))
  case first =>
    go_region_held3 (fun W => W.cell? ⟨g, 0, none⟩ = some (.int .u8 5) ∧ W.cell? ⟨g, 1, none⟩ = some (.int .i64 s) ∧ W.cell? ⟨g, 2, none⟩ = some (.int .i64 y) ∧ W.cell? ⟨g, 3, none⟩ = some (.int .i64 t) ∧ W.cell? ⟨g, 4, none⟩ = some (.int .i64 a) ∧ W.cell? ⟨g, 5, none⟩ = some (.int .u8 0) ∧ W.cell? x = some (.int .u8 v)) (go_keep) (first
      | ((with_reducible refine (hear_as s y t a v w2.drew HS.out HY.out HC.drew HBW.out (Nat.lt_of_sub_eq_succ rfl) _ _ _ rfl rfl rfl).mono ?_); rintro e w3 ⟨rfl, S3, C3, F3, hS3⟩; obtain ⟨hm0, hm1, hm2, hm3, hm4, hm5, hmf⟩ := cells6 (F3.at (show w2.drew.heap[g]? = some (.cells #[.int .u8 5, .int .i64 s, .int .i64 y, .int .i64 t, .int .i64 a, .int .u8 0] 30 (0, 0)) from Q2.out) NG.out); have hmx := (World.cell?_of_block (F3.block x.block (World.block_lt_of_cell? w2.drew x (show w2.drew.cell? x = some (.int .u8 v) from HX2.out)) NX.out)).trans (show w2.drew.cell? x = some (.int .u8 v) from HX2.out))
      | ((with_reducible refine (hear_as s y t a v (w2.alloc z6).drew HS.out HY.out (HC.alloc z6).drew HBX.out (Nat.lt_of_sub_eq_succ rfl) _ _ _ rfl rfl rfl).mono ?_); rintro e w3 ⟨rfl, S3, C3, F3, hS3⟩; obtain ⟨hm0, hm1, hm2, hm3, hm4, hm5, hmf⟩ := cells6 (F3.at (show (w2.alloc z6).drew.heap[g]? = some (.cells #[.int .u8 5, .int .i64 s, .int .i64 y, .int .i64 t, .int .i64 a, .int .u8 0] 30 (0, 0)) from blk_alloc Q2.out z6) NG.out); have hmx := (World.cell?_of_block (F3.block x.block (World.block_lt_of_cell? (w2.alloc z6).drew x (show (w2.alloc z6).drew.cell? x = some (.int .u8 v) from (World.cell?_alloc_lt _ _ _ (World.block_lt_of_cell? _ _ HX2.out)).trans HX2.out)) NX.out)).trans (show (w2.alloc z6).drew.cell? x = some (.int .u8 v) from (World.cell?_alloc_lt _ _ _ (World.block_lt_of_cell? _ _ HX2.out)).trans HX2.out); have z3 := F3.at (show (w2.alloc z6).drew.heap[w2.heap.size]? = some z6 from blk_new w2 z6) NS2.out; obtain ⟨zn0, zn1, zn2, zn3, zn4, zn5, znf⟩ := cells6 z3))
    all_goals (go_wp2_with fail; go_meet)
    case rel => exact ⟨_, rfl, rfl, ⟨heard_a C3 F3 hS3 HB3.out NGL.out Q2L.out HS'.out HB0.out⟩⟩
    case rel => exact ⟨_, rfl, rfl, ⟨heard_b C3 F3 hS3 HB3.out NGL.out NS2.out Q2L.out HS'.out HB0.out⟩⟩
  case rest =>
    obtain ⟨g6, rfl, rfl, HH⟩ := hcut
    clear hn0 hn1 hn2 hn3 hn4 hn5 hnf hx q2 ne1 ne2 ne3 ne4 HX2 Q2 Q2L NGL NG NX NS2 HBW HBX HB3 HS' HB0 hgl hxl hbw hS' nS B3 HC
    clear S w2
    obtain ⟨f, hf⟩ : ∃ f, f = upd (fun _ _ => none) s y (if v = 1 then 1 else 3) := ⟨_, rfl⟩
    obtain ⟨l, hl1⟩ : ∃ l, l = (if v = 1 then [(s, y)] else []) := ⟨_, rfl⟩
    obtain ⟨u, hu⟩ : ∃ u : Int, u = (if v = 1 then 1 else 3) := ⟨_, rfl⟩
    have hfs : f s y = some u := by rw [hf, hu]; simp [upd]
    rw [← hf, ← hl1, ← hu] at HH
    have HF := Aside0.mk hfs
    have HL1 := Aside0.mk hl1
    have HU := Aside0.mk hu
    clear hf hl1 hu hfs
    go_wp2_with fail
    go_loopg [8] (len - 1) (fun kq v8 wr => ∃ i : Nat, v8 = .int .i64 i ∧ Aside0 (1 ≤ i) ∧ i ≤ len ∧ Aside0 (kq = len - i) ∧ Aside0 (Heard w wr base c f l i [(g6, bx6 5 s y t a u), (g, bx6 5 s y t a 0)]))
    case atStart => exact ⟨1, rfl, ⟨Nat.le_refl _⟩, hp, ⟨rfl⟩, HH⟩
    case round =>
      obtain ⟨i, rfl, hi1, hi2, hk, HH⟩ := hrel
      obtain ⟨S, HC, hS1, hS2⟩ := HH.out.ex
      have q6 := HH.out.blk (g6, bx6 5 s y t a u) (by simp)
      have q := HH.out.blk (g, bx6 5 s y t a 0) (by simp)
      by_cases hlt : i < len
      · obtain ⟨x, e1, hx⟩ := HR.out.at HH.out.below i hlt
        cases e1
        have HV := Aside0.mk (HR.out.wf_at i hlt)
        obtain ⟨vi, hvi⟩ : ∃ v, v = zs.getD i 0 := ⟨_, rfl⟩
        rw [← hvi] at hx
        clear hvi
        have hxl := World.block_lt_of_cell? wr _ hx
        have hgl := blk_lt q
        have ne1 : g ≠ wr.heap.size := Nat.ne_of_lt hgl
        have ne2 : wr.heap.size ≠ g := Nat.ne_of_gt hgl
        have ne3 : (x.add i).block ≠ wr.heap.size := Nat.ne_of_lt hxl
        have ne4 : wr.heap.size ≠ (x.add i).block := Nat.ne_of_gt hxl
        obtain ⟨hn0, hn1, hn2, hn3, hn4, hn5, hnf⟩ := cells6 q
        have HX2 := Aside0.mk hx
        have Q2 := Aside0.mk q
        have NG : Aside0 (¬ S g) := ⟨hS1 (g, bx6 5 s y t a 0) (by simp)⟩
        have NX : Aside0 (¬ S (x.add i).block) := ⟨fun h => by have := hS2 _ h; obtain ⟨x', e1, e2⟩ := HR.out.cell i hlt; cases e1; have := World.block_lt_of_cell? w _ e2; omega⟩
        have NS2 : Aside0 (¬ S wr.heap.size) := ⟨fun h => by have := HC.hi _ h; omega⟩
        have HBW : Aside0 (base ≤ wr.drew.heap.size) := ⟨HH.out.hb⟩
        have HBX : Aside0 (base ≤ (wr.alloc z6).drew.heap.size) := ⟨Nat.le_trans HH.out.hb (by show wr.heap.size ≤ (wr.alloc z6).heap.size; simp)⟩
        have HE1 : Aside0 (hearV f s y vi = u) := ⟨by simp [hearV, HF.out]⟩
        have HE2 : Aside0 (hearF f s y vi = f) := ⟨by simp [hearF, HF.out]⟩
        have HE3 : Aside0 (hearL f l s y vi = l) := ⟨by simp [hearL, HF.out]⟩
        have LN : Aside0 (i < 900) := ⟨by omega⟩
        have HS1 := Aside0.mk hS1
        have HS2 := Aside0.mk hS2
        clear q q6 hS1 hS2
        go_upto_region 10 with fail
        go_cut [9, 10] (fun v9 v10 wc => ∃ g9 : Nat, v9 = .pointer (some ⟨g9, 0, none⟩) ∧ v10 = .bool true ∧ Aside0 (Heard w wc base c f l (i + 1) [(g9, bx6 5 s y t a u), (g6, bx6 5 s y t a u), (g, bx6 5 s y t a 0)]))
        case first =>
          go_region_held3 (fun W => W.cell? ⟨g, 0, none⟩ = some (.int .u8 5) ∧ W.cell? ⟨g, 1, none⟩ = some (.int .i64 s) ∧ W.cell? ⟨g, 2, none⟩ = some (.int .i64 y) ∧ W.cell? ⟨g, 3, none⟩ = some (.int .i64 t) ∧ W.cell? ⟨g, 4, none⟩ = some (.int .i64 a) ∧ W.cell? ⟨g, 5, none⟩ = some (.int .u8 0) ∧ W.cell? (x.add i) = some (.int .u8 vi)) (go_keep) (first
            | ((with_reducible refine (hear_as s y t a vi wr.drew HS.out HY.out HC.drew HBW.out LN.out u f l HE1.out HE2.out HE3.out).mono ?_); rintro e w3 ⟨rfl, S3, C3, F3, hS3⟩; obtain ⟨hm0, hm1, hm2, hm3, hm4, hm5, hmf⟩ := cells6 (F3.at (show (World.heap wr.drew)[g]? = some (bx6 5 s y t a 0) from Q2.out) NG.out); have hmx := (World.cell?_of_block (F3.block (x.add i).block (World.block_lt_of_cell? wr.drew _ (show wr.drew.cell? (x.add i) = some (.int .u8 vi) from HX2.out)) NX.out)).trans (show wr.drew.cell? (x.add i) = some (.int .u8 vi) from HX2.out))
            | ((with_reducible refine (hear_as s y t a vi (wr.alloc z6).drew HS.out HY.out (HC.alloc z6).drew HBX.out LN.out u f l HE1.out HE2.out HE3.out).mono ?_); rintro e w3 ⟨rfl, S3, C3, F3, hS3⟩; obtain ⟨hm0, hm1, hm2, hm3, hm4, hm5, hmf⟩ := cells6 (F3.at (show (World.heap (wr.alloc z6).drew)[g]? = some (bx6 5 s y t a 0) from blk_alloc Q2.out z6) NG.out); have hmx := (World.cell?_of_block (F3.block (x.add i).block (World.block_lt_of_cell? (wr.alloc z6).drew _ (show (wr.alloc z6).drew.cell? (x.add i) = some (.int .u8 vi) from (World.cell?_alloc_lt _ _ _ (World.block_lt_of_cell? _ _ HX2.out)).trans HX2.out)) NX.out)).trans (show (wr.alloc z6).drew.cell? (x.add i) = some (.int .u8 vi) from (World.cell?_alloc_lt _ _ _ (World.block_lt_of_cell? _ _ HX2.out)).trans HX2.out); have z3 := F3.at (show (wr.alloc z6).drew.heap[wr.heap.size]? = some z6 from blk_new wr z6) NS2.out; obtain ⟨zn0, zn1, zn2, zn3, zn4, zn5, znf⟩ := cells6 z3))
          all_goals (go_wp2_with fail; go_meet)
          case rel => exact ⟨_, rfl, rfl, ⟨heard_a C3 F3 hS3 HH.out.below HS1.out HH.out.blk HS2.out HH.out.hb⟩⟩
          case rel => exact ⟨_, rfl, rfl, ⟨heard_b C3 F3 hS3 HH.out.below HS1.out NS2.out HH.out.blk HS2.out HH.out.hb⟩⟩
        case rest =>
          obtain ⟨g9, rfl, rfl, HH9⟩ := hcut
          clear hn0 hn1 hn2 hn3 hn4 hn5 hnf hx HX2 Q2 NG NX NS2 HBW HBX HE1 HE2 HE3 LN HS1 HS2 ne1 ne2 ne3 ne4 hxl hgl HC HH
          clear S
          obtain ⟨hn0, hn1, hn2, hn3, hn4, hn5, hnf⟩ := cells6 (HH9.out.blk (g9, bx6 5 s y t a u) (by simp))
          obtain ⟨hm0, hm1, hm2, hm3, hm4, hm5, hmf⟩ := cells6 (HH9.out.blk (g6, bx6 5 s y t a u) (by simp))
          go_wp2_with fail
          go_roundg (len - (i + 1))
          case measure => have := hk.out; omega
          case rel => exact ⟨i + 1, by go_num, ⟨by omega⟩, by omega, ⟨rfl⟩, ⟨⟨HH9.out.ex.imp fun S h => ⟨h.1, fun p hp => h.2.1 p (List.mem_cons_of_mem _ hp), h.2.2⟩, fun p hp => HH9.out.blk p (List.mem_cons_of_mem _ hp), HH9.out.below, HH9.out.hb⟩⟩⟩
      · obtain rfl : i = len := by omega
        obtain ⟨x, e1, hx⟩ := HR.out.at HH.out.below 0 hp
        cases e1
        rw [← HVV.out, Addr.add_zero'] at hx
        have hc : Aside0 (cnt l s y = if v = 1 then 1 else 0) := ⟨by rw [HL1.out]; split <;> simp [cnt]⟩
        obtain ⟨hn0, hn1, hn2, hn3, hn4, hn5, hnf⟩ := cells6 q
        obtain ⟨hm0, hm1, hm2, hm3, hm4, hm5, hmf⟩ := cells6 q6
        have hgl := blk_lt q
        have hgl6 := blk_lt q6
        have hxl := World.block_lt_of_cell? wr _ hx
        have LN : Aside0 (i < 1000) := ⟨by omega⟩
        have H1 := Aside0.mk hx
        have H2 := Aside0.mk hn1
        have H3 := Aside0.mk hn2
        have H4 := Aside0.mk hm5
        have HCA := Aside0.mk HC.drew
        by_cases hv1 : v = 1
        all_goals
          have hu1 := HU.out
          have hc1 := hc.out
          first | rw [if_pos hv1] at hu1 hc1 | rw [if_neg hv1] at hu1 hc1
          have HCN := Aside0.mk hc1
          first
            | (subst hv1; subst hu1)
            | (subst hu1; have hv2 : (v == 1) = false := by simpa using hv1)
          clear hc1
          try clear hv1
          go_wp2_with fail
          first
            | go_region_held3 (fun W => W.cell? ⟨g6, 5, none⟩ = some (.int .u8 1) ∧ W.cell? x = some (.int .u8 1) ∧ W.cell? ⟨g, 1, none⟩ = some (.int .i64 s) ∧ W.cell? ⟨g, 2, none⟩ = some (.int .i64 y)) (go_keep) (first
                | ((with_reducible refine (sent_cart s y wr.drew HCA.out LN.out).mono ?_); rintro e w3 ⟨rfl, B3⟩; rw [HCN.out]; have k1 := (B3.cell (p := ⟨g6, 5, none⟩) hgl6).trans H4.out; have k2 := (B3.cell (p := x) hxl).trans H1.out; have k3 := (B3.cell (p := ⟨g, 1, none⟩) hgl).trans H2.out; have k4 := (B3.cell (p := ⟨g, 2, none⟩) hgl).trans H3.out))
            | go_region_held3 (fun W => W.cell? ⟨g6, 5, none⟩ = some (.int .u8 3) ∧ W.cell? x = some (.int .u8 v) ∧ W.cell? ⟨g, 1, none⟩ = some (.int .i64 s) ∧ W.cell? ⟨g, 2, none⟩ = some (.int .i64 y)) (go_keep) (first
                | ((with_reducible refine (sent_cart s y wr.drew HCA.out LN.out).mono ?_); rintro e w3 ⟨rfl, B3⟩; rw [HCN.out]; have k1 := (B3.cell (p := ⟨g6, 5, none⟩) hgl6).trans H4.out; have k2 := (B3.cell (p := x) hxl).trans H1.out; have k3 := (B3.cell (p := ⟨g, 1, none⟩) hgl).trans H2.out; have k4 := (B3.cell (p := ⟨g, 2, none⟩) hgl).trans H3.out))
          all_goals (go_wp2_with fail; go_ret)
          all_goals exact ⟨by rfl, HH.out.below.trans ((⟨B3.os, B3.tape, B3.output, B3.size, B3.block⟩ : Below wr.heap.size wr w3).mono HH.out.below.size)⟩
end Go.Proofs.Ytmenfodphooacaa
