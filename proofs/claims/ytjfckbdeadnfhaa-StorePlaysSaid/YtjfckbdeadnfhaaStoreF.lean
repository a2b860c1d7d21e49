/- StoreFirst: what was said first to an Allocate holds. -/
import Derived.Test.YtjfckbdeadnfhaaStoreE
import Derived.LoopTactic
import Derived.Deep.DeepCutAuto
import Derived.Deep.RegionHeld3
namespace Go.Proofs.Ytjfckbdeadnfhaa
open Go.RowKit Go.Maps Go.Proofs.YtjfckbdeadnfhaaW.PrintWords
set_option linter.unusedVariables false

/-- A store, and blocks beside it. -/
structure Heard (w0 w : World) (base c : Nat) (f : Int → Int → Option Int) (A : Int → Int → Bool) (m n : Nat) (S : Nat → Prop) (G : List (Nat × Obj)) : Prop where
  st : IsStore w base c f A m n S
  out : ∀ p ∈ G, ¬ S p.1
  lo : ∀ i, S i → w0.heap.size ≤ i
  blk : ∀ p ∈ G, w.heap[p.1]? = some p.2
  below : Below w0.heap.size w0 w
theorem heard_a {w0 w2 w3 : World} {base c m n : Nat} {f : Int → Int → Option Int} {A : Int → Int → Bool} {S : Nat → Prop} {G : List (Nat × Obj)} {o : Obj} (C3 : IsStore w3 base c f A m n S) (F3 : Fr w2.drew w3 S) (B : Below w0.heap.size w0 w2) (nS : ∀ p ∈ G, ¬ S p.1)
    (q : ∀ p ∈ G, w2.heap[p.1]? = some p.2) (hS : ∀ i, S i → w0.heap.size ≤ i) : Heard w0 (w3.alloc o) base c f A m n S ((w3.heap.size, o) :: G) := by
  have hsz : w2.heap.size ≤ w3.heap.size := F3.size
  have hB : Below w0.heap.size w0 w3 := B.trans ((F3.below (B := w0.heap.size) B.size hS : Below _ w2.drew w3) |> fun h => ⟨h.os, h.tape, h.output, h.size, h.block⟩)
  refine ⟨C3.alloc _, fun p hp h => ?_, hS, fun p hp => ?_, below_alloc hB _⟩
  · rcases List.mem_cons.1 hp with rfl | hp
    · have := C3.hi _ h; simp at this
    · exact nS p hp h
  · rcases List.mem_cons.1 hp with rfl | hp
    · exact blk_new _ _
    · exact blk_alloc (F3.at (show w2.drew.heap[p.1]? = _ from q p hp) (nS p hp)) _
theorem heard_b {w0 w2 w3 : World} {base c m n : Nat} {f : Int → Int → Option Int} {A : Int → Int → Bool} {S : Nat → Prop} {G : List (Nat × Obj)} {s y t a u v : Int} (C3 : IsStore w3 base c f A m n S) (F3 : Fr (w2.alloc z6).drew w3 S) (B : Below w0.heap.size w0 w2) (nS : ∀ p ∈ G, ¬ S p.1) (nS2 : ¬ S w2.heap.size)
    (q : ∀ p ∈ G, w2.heap[p.1]? = some p.2) (hS : ∀ i, S i → w0.heap.size ≤ i) :
    Heard w0 ((((((w3.setCell ⟨w2.heap.size, 0, none⟩ (.int .u8 v)).setCell ⟨w2.heap.size, 1, none⟩ (.int .i64 s)).setCell ⟨w2.heap.size, 2, none⟩ (.int .i64 y)).setCell ⟨w2.heap.size, 3, none⟩ (.int .i64 t)).setCell ⟨w2.heap.size, 4, none⟩ (.int .i64 a)).setCell ⟨w2.heap.size, 5, none⟩ (.int .u8 u)) base c f A m n S ((w2.heap.size, bx6 v s y t a u) :: G) := by
  have B2 : Below w0.heap.size w0 (w2.alloc z6).drew := (below_alloc B z6).drew
  have hB : Below w0.heap.size w0 w3 := B2.trans (F3.below B2.size hS)
  have e2 := F3.at (show (w2.alloc z6).drew.heap[w2.heap.size]? = some z6 from blk_new w2 z6) nS2
  have k : Fr w3 ((((((w3.setCell ⟨w2.heap.size, 0, none⟩ (.int .u8 v)).setCell ⟨w2.heap.size, 1, none⟩ (.int .i64 s)).setCell ⟨w2.heap.size, 2, none⟩ (.int .i64 y)).setCell ⟨w2.heap.size, 3, none⟩ (.int .i64 t)).setCell ⟨w2.heap.size, 4, none⟩ (.int .i64 a)).setCell ⟨w2.heap.size, 5, none⟩ (.int .u8 u)) (fun i => i = w2.heap.size) :=
    ((((((Fr.refl w3 (fun i => i = w2.heap.size)).set (p := ⟨w2.heap.size, 0, none⟩) (.inl rfl) _).set (p := ⟨w2.heap.size, 1, none⟩) (.inl rfl) _).set (p := ⟨w2.heap.size, 2, none⟩) (.inl rfl) _).set (p := ⟨w2.heap.size, 3, none⟩) (.inl rfl) _).set (p := ⟨w2.heap.size, 4, none⟩) (.inl rfl) _).set (p := ⟨w2.heap.size, 5, none⟩) (.inl rfl) _
  refine ⟨C3.kept k (fun i hi e => nS2 (by rw [← show i = w2.heap.size from e]; exact hi)), fun p hp h => ?_, hS, fun p hp => ?_, hB.trans (k.below hB.size (fun i hi => by rw [show i = w2.heap.size from hi]; exact B.size))⟩
  · rcases List.mem_cons.1 hp with rfl | hp
    · exact nS2 h
    · exact nS p hp h
  · rcases List.mem_cons.1 hp with rfl | hp
    · exact put6 e2
    · have := blk_lt (q p hp)
      exact k.at (F3.at (show (w2.alloc z6).drew.heap[p.1]? = _ from blk_alloc (q p hp) z6) (nS p hp)) (fun e => by have e : p.1 = w2.heap.size := e; omega)

theorem IsStore.drewN {w : World} {base c m n : Nat} {f : Int → Int → Option Int} {A : Int → Int → Bool} {S : Nat → Prop} (h : IsStore w base c f A m n S) (k : Nat) : IsStore (w.drewN k) base c f A m n S := ⟨h.ex, h.lo, h.hi⟩
set_option maxHeartbeats 8000000 in
theorem first_any (s y : Int) (Ad : Option Addr) (len cap : Nat) (zs : List Int) (w : World) (hs : (Lit.int .i64 s).wf = true) (hy : (Lit.int .i64 y).wf = true) (hr : RowIn .u8 w Ad len zs) (hlen : len ≤ 140737488351232) :
    Calls Try.prog 3 #[.int .i64 s, .int .i64 y, .slice Ad len cap] w fun e w' => e = .returned (.bool true) ∧ Below w.heap.size w w' := by
  have HR := Aside0.mk hr
  have HS := Aside0.mk hs
  have HY := Aside0.mk hy
  clear hr hs hy
  by_cases hl : ((len : Int) == 0) = true
  · go_enter Try.func3, Try.ntmps3
    go_wp2_with fail
    go_at_call 7
    refine (awake_any _).mono ?_
    rintro e w1 ⟨rfl, hB1⟩
    have HB1 := Aside0.mk hB1
    clear hB1
    go_wp2_with fail
    go_at_call 7
    refine (awake_any _).mono ?_
    rintro e w2 ⟨rfl, hB2⟩
    have HB2 := Aside0.mk hB2
    clear hB2
    go_wp2
    go_ret
    exact ⟨rfl, HB1.out.trans (HB2.out.mono HB1.out.size)⟩
  have hl : ((len : Int) == 0) = false := by simpa using hl
  by_cases hg : 30 < len
  · go_enter Try.func3, Try.ntmps3
    go_wp2_with fail
    go_at_call 7
    refine (awake_any _).mono ?_
    rintro e w1 ⟨rfl, hB1⟩
    have HB1 := Aside0.mk hB1
    clear hB1
    go_wp2_with fail
    go_at_call 7
    refine (awake_any _).mono ?_
    rintro e w2 ⟨rfl, hB2⟩
    have HB2 := Aside0.mk hB2
    clear hB2
    go_wp2
    go_ret
    exact ⟨rfl, HB1.out.trans (HB2.out.mono HB1.out.size)⟩
  have hp : 0 < len := by
    have : (len : Int) ≠ 0 := by simpa using hl
    omega
  go_enter Try.func3, Try.ntmps3
  go_wp2_with fail
  go_at_call 7
  refine (awake_any _).mono ?_
  rintro e w1 ⟨rfl, hB1⟩
  go_wp2_with fail
  go_at_call 8
  refine (new_store (base := w1.heap.size) w1 (Nat.le_refl _)).mono ?_
  rintro e w1' ⟨c, S, rfl, HC, hB, hS⟩
  have B1 := hB1.trans (hB.mono hB1.size)
  have hS' : ∀ i, S i → w.heap.size ≤ i := fun i h => Nat.le_trans hB1.size (hS i h)
  obtain ⟨base, hbase⟩ : ∃ b, b = w1.heap.size := ⟨_, rfl⟩
  rw [← hbase] at HC
  clear hbase hB hS hB1
  clear w1
  obtain ⟨x, rfl, hx⟩ := HR.out.at B1 0 hp
  have hxl0 := World.block_lt_of_cell? w1' _ hx
  have HX1 := Aside0.mk hx
  clear hx
  go_wp2_with fail
  have q2 := blk_new w1' (bx6 3 s y 0 0 0)
  have HC2 := HC.alloc (bx6 3 s y 0 0 0)
  have B2 := below_alloc B1 (bx6 3 s y 0 0 0)
  have nS : ¬ S w1'.heap.size := fun h => by have := HC.hi _ h; omega
  have hgw : w.heap.size ≤ w1'.heap.size := B1.size
  have hx : (w1'.alloc (bx6 3 s y 0 0 0)).cell? (x.add 0) = some (.int .u8 (zs.getD 0 0)) := (World.cell?_alloc_lt _ _ _ hxl0).trans HX1.out
  obtain ⟨g, hg1⟩ : ∃ g, g = w1'.heap.size := ⟨_, rfl⟩
  rw [← hg1] at q2 nS hgw ⊢
  obtain ⟨w2, hw2⟩ : ∃ W, W = w1'.alloc (bx6 3 s y 0 0 0) := ⟨_, rfl⟩
  rw [← hw2] at q2 HC2 B2 hx
  rw [show w1'.alloc (.cells #[.int .u8 3, .int .i64 s, .int .i64 y, .int .i64 0, .int .i64 0, .int .u8 0] 27) = w2 from hw2.symm]
  clear hw2 hg1 HC B1 HX1 hxl0
  clear w1'
  have HC := HC2
  clear HC2
  obtain ⟨hn0, hn1, hn2, hn3, hn4, hn5, hnf⟩ := cells6 q2
  obtain ⟨v, hv⟩ : ∃ v, v = zs.getD 0 0 := ⟨_, rfl⟩
  rw [← hv, Addr.add_zero'] at hx
  have hgl := blk_lt q2
  have hxl := World.block_lt_of_cell? w2 _ hx
  have HVV := Aside0.mk hv
  have NS2 : Aside0 (¬ S w2.heap.size) := ⟨fun h => by have := HC.hi _ h; omega⟩
  have NG : Aside0 (¬ S g) := ⟨nS⟩
  have NX : Aside0 (¬ S x.block) := ⟨fun h => by have := hS' _ h; obtain ⟨x', e1, e2⟩ := HR.out.cell 0 hp; cases e1; have := World.block_lt_of_cell? w _ e2; rw [add_block] at this; omega⟩
  have Q2 := Aside0.mk q2
  have Q2L : Aside0 (∀ p ∈ [(g, bx6 3 s y 0 0 0)], w2.heap[p.1]? = some p.2) := ⟨fun p hp => by simp at hp; subst hp; exact q2⟩
  have NGL : Aside0 (∀ p ∈ [(g, bx6 3 s y 0 0 0)], ¬ S p.1) := ⟨fun p hp => by simp at hp; subst hp; exact nS⟩
  have ne1 : g ≠ w2.heap.size := Nat.ne_of_lt hgl
  have ne2 : w2.heap.size ≠ g := Nat.ne_of_gt hgl
  have ne3 : x.block ≠ w2.heap.size := Nat.ne_of_lt hxl
  have ne4 : w2.heap.size ≠ x.block := Nat.ne_of_gt hxl
  have HX2 := Aside0.mk hx
  have HB3 := Aside0.mk B2
  have HS' := Aside0.mk hS'
  have LN : Aside0 (0 < 900) := ⟨by omega⟩
  obtain ⟨f, hf⟩ : ∃ f, f = upd (fun _ _ => none) s y (if v = 1 then 1 else 3) := ⟨_, rfl⟩
  obtain ⟨A, hA1⟩ : ∃ A, A = (if v = 1 then updA (fun _ _ => false) s y true else (fun _ _ => false)) := ⟨_, rfl⟩
  obtain ⟨m, hm1⟩ : ∃ m : Nat, m = (if v = 1 then 1 else 0) := ⟨_, rfl⟩
  obtain ⟨u, hu⟩ : ∃ u : Int, u = (if v = 1 then 1 else 3) := ⟨_, rfl⟩
  have hfs : f s y = some u := by rw [hf, hu]; simp [upd]
  have hAs : A s y = (v == 1) := by rw [hA1]; by_cases h : v = 1 <;> simp [h, updA]
  have HF := Aside0.mk hfs
  have HA1 := Aside0.mk hAs
  have HU := Aside0.mk hu
  have HE1 : Aside0 (hV (fun _ _ => none) 3 s y v = u) := ⟨by rw [hu]; rfl⟩
  have HE2 : Aside0 (hF (fun _ _ => none) 3 s y v = f) := ⟨by rw [hf]; rfl⟩
  have HE3 : Aside0 (hA (fun _ _ => none) (fun _ _ => false) 3 s y v = A) := ⟨by rw [hA1]; rfl⟩
  have HE4 : Aside0 (hM (fun _ _ => none) (fun _ _ => false) 0 3 s y v = m) := ⟨by rw [hm1]; simp [hM]⟩
  clear hf hA1 hu hfs hAs hm1
  clear hv q2 B2 hS' nS
  go_upto_region 5 with fail
  go_cut [9, 10] (fun v6 v7 wc => ∃ g6 : Nat, v6 = .pointer (some ⟨g6, 0, none⟩) ∧ v7 = .bool true ∧ Aside0 (Heard w wc base c f A m 1 S [(g6, bx6 3 s y 0 0 u), (g, bx6 3 s y 0 0 0)]))
  case first =>
    go_region_held3 (fun W => W.cell? ⟨g, 0, none⟩ = some (.int .u8 3) ∧ W.cell? ⟨g, 1, none⟩ = some (.int .i64 s) ∧ W.cell? ⟨g, 2, none⟩ = some (.int .i64 y) ∧ W.cell? ⟨g, 3, none⟩ = some (.int .i64 0) ∧ W.cell? ⟨g, 4, none⟩ = some (.int .i64 0) ∧ W.cell? ⟨g, 5, none⟩ = some (.int .u8 0) ∧ W.cell? x = some (.int .u8 v)) (go_keep) (first
        | ((with_reducible refine (hear_as 3 s y 0 0 v w2.drew (.inl rfl) HS.out HY.out HC.drew LN.out u f A m HE1.out HE2.out HE3.out HE4.out).mono ?_); rintro e w3 ⟨rfl, C3, F3⟩; obtain ⟨hm0, hm1, hm2, hm3, hm4, hm5, hmf⟩ := cells6 (F3.at (show (World.heap w2.drew)[g]? = some (bx6 3 s y 0 0 0) from Q2.out) NG.out); have hmx := (World.cell?_of_block (F3.block (Addr.block x) (World.block_lt_of_cell? w2.drew _ (show (World.drew w2).cell? x = some (.int .u8 v) from HX2.out)) NX.out)).trans (show (World.drew w2).cell? x = some (.int .u8 v) from HX2.out))
        | ((with_reducible refine (hear_as 3 s y 0 0 v (World.alloc w2 z6).drew (.inl rfl) HS.out HY.out (HC.alloc z6).drew LN.out u f A m HE1.out HE2.out HE3.out HE4.out).mono ?_); rintro e w3 ⟨rfl, C3, F3⟩; obtain ⟨hm0, hm1, hm2, hm3, hm4, hm5, hmf⟩ := cells6 (F3.at (show (World.heap (World.alloc w2 z6).drew)[g]? = some (bx6 3 s y 0 0 0) from blk_alloc Q2.out z6) NG.out); have hmx := (World.cell?_of_block (F3.block (Addr.block x) (World.block_lt_of_cell? (World.alloc w2 z6).drew _ (show (World.alloc w2 z6).drew.cell? x = some (.int .u8 v) from (World.cell?_alloc_lt _ _ _ (World.block_lt_of_cell? _ _ HX2.out)).trans HX2.out)) NX.out)).trans (show (World.alloc w2 z6).drew.cell? x = some (.int .u8 v) from (World.cell?_alloc_lt _ _ _ (World.block_lt_of_cell? _ _ HX2.out)).trans HX2.out); have z3 := F3.at (show (World.alloc w2 z6).drew.heap[w2.heap.size]? = some z6 from blk_new w2 z6) NS2.out; obtain ⟨zn0, zn1, zn2, zn3, zn4, zn5, znf⟩ := cells6 z3))
    all_goals (go_wp2_with fail; go_meet)
    case rel => exact ⟨_, rfl, rfl, ⟨heard_a C3 F3 HB3.out NGL.out Q2L.out HS'.out⟩⟩
    case rel => exact ⟨_, rfl, rfl, ⟨heard_b C3 F3 HB3.out NGL.out NS2.out Q2L.out HS'.out⟩⟩
  case rest =>
    obtain ⟨g6, rfl, rfl, HH⟩ := hcut
    clear hn0 hn1 hn2 hn3 hn4 hn5 hnf hx ne1 ne2 ne3 ne4 HX2 Q2 Q2L NGL NG NX NS2 HB3 HS' hgl hxl HC LN HE1 HE2 HE3 HE4 hgw
    clear w2
    go_wp2_with fail
    go_loopg [11] (len - 1) (fun kq v8 wr => ∃ i : Nat, v8 = .int .i64 i ∧ Aside0 (1 ≤ i) ∧ i ≤ len ∧ Aside0 (kq = len - i) ∧ Aside0 (Heard w wr base c f A m i S [(g6, bx6 3 s y 0 0 u), (g, bx6 3 s y 0 0 0)]))
    case atStart => exact ⟨1, rfl, ⟨Nat.le_refl _⟩, hp, ⟨rfl⟩, HH⟩
    case round =>
      obtain ⟨i, rfl, hi1, hi2, hk, HH⟩ := hrel
      have HC := HH.out.st
      have q6 := HH.out.blk (g6, bx6 3 s y 0 0 u) (by simp)
      have q := HH.out.blk (g, bx6 3 s y 0 0 0) (by simp)
      by_cases hlt : i < len
      · obtain ⟨x, e1, hx⟩ := HR.out.at HH.out.below i hlt
        cases e1
        obtain ⟨vi, hvi⟩ : ∃ v, v = zs.getD i 0 := ⟨_, rfl⟩
        rw [← hvi] at hx
        clear hvi
        have hxl := World.block_lt_of_cell? wr _ hx
        have hgl := blk_lt q
        have ne1 : g ≠ wr.heap.size := Nat.ne_of_lt hgl
        have ne2 : wr.heap.size ≠ g := Nat.ne_of_gt hgl
        have ne3 : (x.add i).block ≠ wr.heap.size := Nat.ne_of_lt hxl
        have ne4 : wr.heap.size ≠ (x.add i).block := Nat.ne_of_gt hxl
        obtain ⟨hn0, hn1, hn2, hn3, hn4, hn5, hnf⟩ := cells6 q
        have HX2 := Aside0.mk hx
        have Q2 := Aside0.mk q
        have NG : Aside0 (¬ S g) := ⟨HH.out.out (g, bx6 3 s y 0 0 0) (by simp)⟩
        have NX : Aside0 (¬ S (x.add i).block) := ⟨fun h => by have := HH.out.lo _ h; obtain ⟨x', e1, e2⟩ := HR.out.cell i hlt; cases e1; have := World.block_lt_of_cell? w _ e2; omega⟩
        have NS2 : Aside0 (¬ S wr.heap.size) := ⟨fun h => by have := HC.hi _ h; omega⟩
        have HE1 : Aside0 (hV f 3 s y vi = u) := ⟨by simp [hV, HF.out]⟩
        have HE2 : Aside0 (hF f 3 s y vi = f) := ⟨by simp [hF, HF.out]⟩
        have HE3 : Aside0 (hA f A 3 s y vi = A) := ⟨by simp [hA, HF.out]⟩
        have HE4 : Aside0 (hM f A m 3 s y vi = m) := ⟨by simp [hM, HF.out]⟩
        have LN : Aside0 (i < 900) := ⟨by omega⟩
        clear q q6
        go_upto_region 9 with fail
        go_cut [12, 13] (fun v9 v10 wc => ∃ g9 : Nat, v9 = .pointer (some ⟨g9, 0, none⟩) ∧ v10 = .bool true ∧ Aside0 (Heard w wc base c f A m (i + 1) S [(g9, bx6 3 s y 0 0 u), (g6, bx6 3 s y 0 0 u), (g, bx6 3 s y 0 0 0)]))
        case first =>
          go_region_held3 (fun W => W.cell? ⟨g, 0, none⟩ = some (.int .u8 3) ∧ W.cell? ⟨g, 1, none⟩ = some (.int .i64 s) ∧ W.cell? ⟨g, 2, none⟩ = some (.int .i64 y) ∧ W.cell? ⟨g, 3, none⟩ = some (.int .i64 0) ∧ W.cell? ⟨g, 4, none⟩ = some (.int .i64 0) ∧ W.cell? ⟨g, 5, none⟩ = some (.int .u8 0) ∧ W.cell? (x.add i) = some (.int .u8 vi)) (go_keep) (first
        | ((with_reducible refine (hear_as 3 s y 0 0 vi wr.drew (.inl rfl) HS.out HY.out HC.drew LN.out u f A m HE1.out HE2.out HE3.out HE4.out).mono ?_); rintro e w3 ⟨rfl, C3, F3⟩; obtain ⟨hm0, hm1, hm2, hm3, hm4, hm5, hmf⟩ := cells6 (F3.at (show (World.heap wr.drew)[g]? = some (bx6 3 s y 0 0 0) from Q2.out) NG.out); have hmx := (World.cell?_of_block (F3.block (Addr.block (x.add i)) (World.block_lt_of_cell? wr.drew _ (show (World.drew wr).cell? (x.add i) = some (.int .u8 vi) from HX2.out)) NX.out)).trans (show (World.drew wr).cell? (x.add i) = some (.int .u8 vi) from HX2.out))
        | ((with_reducible refine (hear_as 3 s y 0 0 vi (World.alloc wr z6).drew (.inl rfl) HS.out HY.out (HC.alloc z6).drew LN.out u f A m HE1.out HE2.out HE3.out HE4.out).mono ?_); rintro e w3 ⟨rfl, C3, F3⟩; obtain ⟨hm0, hm1, hm2, hm3, hm4, hm5, hmf⟩ := cells6 (F3.at (show (World.heap (World.alloc wr z6).drew)[g]? = some (bx6 3 s y 0 0 0) from blk_alloc Q2.out z6) NG.out); have hmx := (World.cell?_of_block (F3.block (Addr.block (x.add i)) (World.block_lt_of_cell? (World.alloc wr z6).drew _ (show (World.alloc wr z6).drew.cell? (x.add i) = some (.int .u8 vi) from (World.cell?_alloc_lt _ _ _ (World.block_lt_of_cell? _ _ HX2.out)).trans HX2.out)) NX.out)).trans (show (World.alloc wr z6).drew.cell? (x.add i) = some (.int .u8 vi) from (World.cell?_alloc_lt _ _ _ (World.block_lt_of_cell? _ _ HX2.out)).trans HX2.out); have z3 := F3.at (show (World.alloc wr z6).drew.heap[wr.heap.size]? = some z6 from blk_new wr z6) NS2.out; obtain ⟨zn0, zn1, zn2, zn3, zn4, zn5, znf⟩ := cells6 z3))
          all_goals (go_wp2_with fail; go_meet)
          case rel => exact ⟨_, rfl, rfl, ⟨heard_a C3 F3 HH.out.below HH.out.out HH.out.blk HH.out.lo⟩⟩
          case rel => exact ⟨_, rfl, rfl, ⟨heard_b C3 F3 HH.out.below HH.out.out NS2.out HH.out.blk HH.out.lo⟩⟩
        case rest =>
          obtain ⟨g9, rfl, rfl, HH9⟩ := hcut
          clear hn0 hn1 hn2 hn3 hn4 hn5 hnf hx HX2 Q2 NG NX NS2 HE1 HE2 HE3 HE4 LN ne1 ne2 ne3 ne4 hxl hgl HC HH
          obtain ⟨hn0, hn1, hn2, hn3, hn4, hn5, hnf⟩ := cells6 (HH9.out.blk (g9, bx6 3 s y 0 0 u) (by simp))
          obtain ⟨hm0, hm1, hm2, hm3, hm4, hm5, hmf⟩ := cells6 (HH9.out.blk (g6, bx6 3 s y 0 0 u) (by simp))
          go_wp2_with fail
          go_roundg (len - (i + 1))
          case measure => have := hk.out; omega
          case rel => exact ⟨i + 1, by go_num, ⟨by omega⟩, by omega, ⟨rfl⟩, ⟨⟨HH9.out.st, fun p hp => HH9.out.out p (List.mem_cons_of_mem _ hp), HH9.out.lo, fun p hp => HH9.out.blk p (List.mem_cons_of_mem _ hp), HH9.out.below⟩⟩⟩
      · obtain rfl : i = len := by omega
        obtain ⟨x, e1, hx⟩ := HR.out.at HH.out.below 0 hp
        cases e1
        rw [← HVV.out, Addr.add_zero'] at hx
        obtain ⟨hm0, hm1, hm2, hm3, hm4, hm5, hmf⟩ := cells6 q6
        have HCA := Aside0.mk HC.drew
        have hu1 := HU.out
        have ha1 := HA1.out
        have k4 := hm5
        have k1 := hx
        by_cases hv1 : v = 1
        all_goals
          first | rw [if_pos hv1] at hu1 | rw [if_neg hv1] at hu1
          first
            | (subst hv1; subst hu1; have ha2 : A s y = true := by rw [ha1]; rfl)
            | (subst hu1; have hv2 : (v == 1) = false := by simpa using hv1)
          first | have ha3 := Aside0.mk ha2 | have ha3 := Aside0.mk (ha1.trans hv2)
          clear ha1
          try clear ha2
          try clear hv1
          have HQ_ := 0
          clear HQ_
          go_wp2_with fail
          have HQ : Aside0 (∀ nq, Calls Try.prog 10 #[.pointer (some ⟨c, 0, none⟩), .int .i64 s, .int .i64 y] (wr.drewN nq) fun e w' => e = .returned (.bool (A s y)) ∧ w' = wr.drewN nq) := ⟨fun nq => aside_store s y _ HS.out HY.out (HC.drewN nq)⟩
          rw [ha3.out] at HQ
          go_quiet ((go_at_call 10; exact Calls.quiet_of_same (HQ.out _)))
          go_wp2
          go_ret
          exact ⟨by rfl, pw_below_drewN2 HH.out.below _⟩
end Go.Proofs.Ytjfckbdeadnfhaa
