/- StorePlays: things that are laid aside, and put back, again and again. -/
import Derived.Test.YtjfckbdeadnfhaaStoreI
import Derived.Outline
import Derived.DataShut
namespace Go.Proofs.Ytjfckbdeadnfhaa
open Go.RowKit Go.Maps Go.Proofs.YtjfckbdeadnfhaaW.PrintWords
set_option linter.unusedVariables false
/-- A row of acts that came in: four bytes each. -/
structure RowA (w : World) (a : Option Addr) (len : Nat) (Z : Nat → Nat → Int) : Prop where
  cell : ∀ i j, i < len → j < 4 → ∃ x, a = some x ∧ w.cell? (x.add (i * 4 + j)) = some (.int .u8 (Z i j))
  wf : ∀ i j, i < len → j < 4 → 0 ≤ Z i j ∧ Z i j ≤ 255
theorem RowA.at {w w' : World} {a : Option Addr} {len : Nat} {Z : Nat → Nat → Int} (h : RowA w a len Z) (hb : Below w.heap.size w w') (i : Nat) (hi : i < len) : ∃ x, a = some x ∧ w'.cell? (x.add (i * 4)) = some (.int .u8 (Z i 0)) ∧ w'.cell? ⟨(x.add (i * 4)).block, (x.add (i * 4)).off + 1, none⟩ = some (.int .u8 (Z i 1)) ∧ w'.cell? ⟨(x.add (i * 4)).block, (x.add (i * 4)).off + 2, none⟩ = some (.int .u8 (Z i 2)) ∧ w'.cell? ⟨(x.add (i * 4)).block, (x.add (i * 4)).off + 3, none⟩ = some (.int .u8 (Z i 3)) := by
  obtain ⟨x, e, h0⟩ := h.cell i 0 hi (by omega)
  have hh : ∀ j, j < 4 → w'.cell? (x.add (i * 4 + j)) = some (.int .u8 (Z i j)) := by
    intro j hj
    obtain ⟨x', e', h1⟩ := h.cell i j hi hj
    rw [e] at e'; injection e' with e'; subst e'
    rw [hb.cell (World.block_lt_of_cell? w _ h1)]
    exact h1
  refine ⟨x, e, hh 0 (by omega), ?_, ?_, ?_⟩
  · have h2 := hh 1 (by omega)
    rw [← add_add] at h2
    exact h2
  · have h2 := hh 2 (by omega)
    rw [← add_add] at h2
    exact h2
  · have h2 := hh 3 (by omega)
    rw [← add_add] at h2
    exact h2
/-- The head of a round. -/
structure Round (w0 w : World) (base c gt ga i : Nat) : Prop where
  ex : ∃ f g m A B S, Hd (fun w => IsStore w base c f g m i S) w0 w S [(gt, .cells A 34 (0, 0)), (ga, .cells B 36 (0, 0))] ∧ ArrS A f ∧ ArrB B g ∧ Inv f g m
set_option maxRecDepth 100000 in
set_option maxHeartbeats 4000000 in
theorem plays_not (A0 : Option Addr) (n0 c0 : Nat) (w : World) (h : 60 < n0) :
    Calls Try.prog 4 #[.slice A0 n0 c0] w fun e w' => e = .returned (.bool true) ∧ Below w.heap.size w w' := by
  go_enter Try.func4, Try.ntmps4
  go_wp2_with fail
  go_at_call 7
  refine (awake_any _).mono ?_
  rintro e w1 ⟨rfl, hB1⟩
  have HB1 := Aside0.mk hB1
  clear hB1
  go_wp2_with fail
  go_at_call 7
  refine (awake_any _).mono ?_
  rintro e w2 ⟨rfl, hB2⟩
  have HB2 := Aside0.mk hB2
  clear hB2
  go_wp2
  go_ret
  exact ⟨rfl, HB1.out.trans (HB2.out.mono HB1.out.size)⟩
set_option maxRecDepth 100000 in
set_option maxHeartbeats 8000000 in
theorem plays_any (A0 : Option Addr) (n0 c0 : Nat) (Z : Nat → Nat → Int) (w : World) (h0 : n0 ≤ 60) (r0 : RowA w A0 n0 Z) :
    Calls Try.prog 4 #[.slice A0 n0 c0] w fun e w' => e = .returned (.bool true) ∧ Below w.heap.size w w' := by
  have R0 := Aside0.mk r0
  clear r0
  have q1 : decide ((60 : Int) < n0) = false := by simp; omega
  go_enter Try.func4, Try.ntmps4
  go_wp2_with fail
  go_at_call 7
  refine (awake_any _).mono ?_
  rintro e w1 ⟨rfl, hB1⟩
  go_wp2_with fail
  go_at_call 8
  refine (new_store (base := w1.heap.size) w1 (Nat.le_refl _)).mono ?_
  rintro e w2 ⟨c, S, rfl, HC, hB, hS⟩
  have HH0 : Aside0 (Hd (fun w => IsStore w w1.heap.size c (fun _ _ => none) (fun _ _ => false) 0 0 S) w w2 S []) := ⟨⟨HC, by simp, fun i h => Nat.le_trans hB1.size (hS i h), HC.hi, by simp, by simp, by simp, hB1.trans (hB.mono hB1.size)⟩⟩
  obtain ⟨base, hbase⟩ : ∃ b, b = w1.heap.size := ⟨_, rfl⟩
  rw [← hbase] at HH0
  have HR0 : Aside0 (Round w ((w2.alloc (.cells zA 34)).alloc (.cells zB 36)) base c w2.heap.size (w2.heap.size + 1) 0) := ⟨⟨_, _, 0, zA, zB, S, by
    have h1 := (HH0.out.alloc local_store (.cells zA 34)).alloc local_store (.cells zB 36)
    rw [World.size_alloc] at h1
    exact ⟨h1.st, fun p hp => h1.out p (by simp at hp ⊢; rcases hp with rfl | rfl <;> simp), h1.lo, h1.hi, fun p hp => h1.blk p (by simp at hp ⊢; rcases hp with rfl | rfl <;> simp), fun p hp => h1.glo p (by simp at hp ⊢; rcases hp with rfl | rfl <;> simp), by simp, h1.below⟩, ArrS.nil, ArrB.nil, Inv.nil⟩⟩
  clear HH0 hB1 HC hB hS hbase q1
  clear w1
  have HN60 := Aside0.mk h0
  clear h0
  go_wp2_with fail
  obtain ⟨gt, hgt⟩ : ∃ g, g = w2.heap.size := ⟨_, rfl⟩
  obtain ⟨ga, hga⟩ : ∃ g, g = w2.heap.size + 1 := ⟨_, rfl⟩
  rw [← hga, ← hgt] at HR0 ⊢
  clear hgt hga
  go_loopg [6] n0 (fun kq v6 wr => ∃ i : Nat, v6 = .int .i64 i ∧ i ≤ n0 ∧ Aside0 (kq = n0 - i) ∧ Aside0 (Round w wr base c gt ga i))
  case atStart => exact ⟨0, rfl, Nat.zero_le _, ⟨rfl⟩, HR0⟩
  case round =>
    obtain ⟨i, rfl, hi, hk, HR⟩ := hrel
    obtain ⟨f, g, m, A, B, S, HH, HA, HB, HI⟩ := HR.out.ex
    have HH' := Aside0.mk HH
    have HA' := Aside0.mk HA
    have HB' := Aside0.mk HB
    have HI' := Aside0.mk HI
    by_cases hlt : i < n0
    · obtain ⟨x, e0, hx0, hx1, hx2, hx3⟩ := R0.out.at HH.below i hlt
      cases e0
      obtain ⟨b00, b01⟩ := R0.out.wf i 0 hlt (by omega)
      obtain ⟨b10, b11⟩ := R0.out.wf i 1 hlt (by omega)
      obtain ⟨b20, b21⟩ := R0.out.wf i 2 hlt (by omega)
      generalize Z i 0 = K at hx0 b00 b01
      generalize Z i 1 = s0 at hx1 b10 b11
      generalize Z i 2 = y0 at hx2 b20 b21
      generalize Z i 3 = v at hx3
      obtain ⟨s, hs⟩ : ∃ s : Nat, s0 % 3 = (s : Int) := ⟨(s0 % 3).toNat, by omega⟩
      obtain ⟨y, hy⟩ : ∃ y : Nat, y0 % 3 = (y : Int) := ⟨(y0 % 3).toNat, by omega⟩
      have hs3 : s < 3 := by omega
      have hy3 : y < 3 := by omega
      have hsI : (s : Int) < 3 := by omega
      have hyI : (y : Int) < 3 := by omega
      have l0 : (i : Int) < n0 := by omega
      have HG : Aside0 (∀ k : Int, Hd (fun w => IsStore w base c f g m i S) w ((wr.alloc (.cells #[.int .u8 K, .int .u8 s0, .int .u8 y0, .int .u8 v] 38)).alloc (bx6 k s y 0 0 0)) S
        [(wr.heap.size + 1, bx6 k s y 0 0 0), (wr.heap.size, .cells #[.int .u8 K, .int .u8 s0, .int .u8 y0, .int .u8 v] 38), (gt, .cells A 34 (0, 0)), (ga, .cells B 36 (0, 0))]) := ⟨fun k => by
        have h1 := (HH.alloc local_store (.cells #[.int .u8 K, .int .u8 s0, .int .u8 y0, .int .u8 v] 38)).alloc local_store (bx6 k s y 0 0 0)
        rw [World.size_alloc] at h1
        exact h1⟩
      have HSW : Aside0 ((Lit.int .i64 (s : Int)).wf = true) := ⟨(Lit.wf_int_iff _ _).2 (by rw [show IntKind.i64.min = -9223372036854775808 by decide, show IntKind.i64.max = 9223372036854775807 by decide]; omega)⟩
      have HYW : Aside0 ((Lit.int .i64 (y : Int)).wf = true) := ⟨(Lit.wf_int_iff _ _).2 (by rw [show IntKind.i64.min = -9223372036854775808 by decide, show IntKind.i64.max = 9223372036854775807 by decide]; omega)⟩
      have HI2 : Aside0 (∀ k v : Int, Inv (hF f k s y v) (hA f g k s y v) (hM f g m k s y v)) := ⟨fun k v => HI.hear (by omega) (by omega) k v⟩
      have LN : Aside0 (i < 900) := ⟨by have := HN60.out; omega⟩
      clear HH HA HB HI HR
      refine (show K % 7 = 4 ∨ K % 7 = 5 ∨ K % 7 = 6 ∨ (K % 7 ≠ 4 ∧ K % 7 ≠ 5 ∧ K % 7 ≠ 6) by omega).elim (fun hK => ?c4) (fun h => h.elim (fun hK => ?c5) (fun h => h.elim (fun hK => ?c6) (fun hK => ?c3)))
      case c4 =>
        go_upto_region 17 with fail
        obtain ⟨W, hW⟩ : ∃ W, W = (wr.alloc (.cells #[.int .u8 K, .int .u8 s0, .int .u8 y0, .int .u8 v] 38)).alloc (.cells #[.int .u8 4, .int .i64 s, .int .i64 y, .int .i64 0, .int .i64 0, .int .u8 0] 27) := ⟨_, rfl⟩
        have HD : Aside0 (Hd (fun w => IsStore w base c f g m i S) w W S [(wr.heap.size + 1, bx6 4 s y 0 0 0), (wr.heap.size, .cells #[.int .u8 K, .int .u8 s0, .int .u8 y0, .int .u8 v] 38), (gt, .cells A 34 (0, 0)), (ga, .cells B 36 (0, 0))]) := ⟨by rw [hW]; exact HG.out 4⟩
        rw [← hW]
        obtain ⟨gx, hgx⟩ : ∃ g, g = wr.heap.size := ⟨_, rfl⟩
        rw [← hgx] at HD ⊢
        obtain ⟨gn, hgn⟩ : ∃ g, g = gx + 1 := ⟨_, rfl⟩
        rw [← hgn] at HD ⊢
        clear hW HG HH' hgx hgn hx0 hx1 hx2 hx3
        clear wr
        obtain ⟨hn0, hn1, hn2, hn3, hn4, hn5, hnf⟩ := HD.out.six (g := gn) List.mem_cons_self
        have hx3 := (HD.out.at_ (g := gx) (j := 3) (v := .int .u8 v) (List.mem_cons_of_mem _ List.mem_cons_self) rfl).1
        go_wp2_with fail
        go_at_call 9
        have HE1 : Aside0 (Inv (hF f 4 s y v) (hA f g 4 s y v) (hM f g m 4 s y v)) := ⟨HI2.out 4 v⟩
        obtain ⟨u, hu⟩ : ∃ u, hV f 4 s y v = u := ⟨_, rfl⟩
        obtain ⟨f2, hf2⟩ : ∃ u, hF f 4 s y v = u := ⟨_, rfl⟩
        obtain ⟨g2, hg2⟩ : ∃ u, hA f g 4 s y v = u := ⟨_, rfl⟩
        obtain ⟨m2, hm2⟩ : ∃ u, hM f g m 4 s y v = u := ⟨_, rfl⟩
        rw [hf2, hg2, hm2] at HE1
        have HU := Aside0.mk hu
        have HF2 := Aside0.mk hf2
        have HG2 := Aside0.mk hg2
        refine (hear_as 4 s y 0 0 v W (by decide) HSW.out HYW.out HD.out.st LN.out u f2 g2 m2 hu hf2 hg2 hm2).mono ?_
        rintro e w3 ⟨rfl, C3, F3⟩
        have HE : Aside0 (Hd (fun w => IsStore w base c f2 g2 m2 (i + 1) S) w w3 S [(gn, bx6 4 s y 0 0 0), (gx, .cells #[.int .u8 K, .int .u8 s0, .int .u8 y0, .int .u8 v] 38), (gt, .cells A 34 (0, 0)), (ga, .cells B 36 (0, 0))]) := ⟨HD.out.turn F3 C3⟩
        clear hn0 hn1 hn2 hn3 hn4 hn5 hnf hx3 HD C3 F3 hu hf2 hg2 hm2 HI2
        clear W
        obtain ⟨hn0, hn1, hn2, hn3, hn4, hn5, hnf⟩ := HE.out.six (g := gn) List.mem_cons_self
        have hgl := blk_lt (HE.out.blk _ List.mem_cons_self)
        replace hgl : gn < w3.heap.size := hgl
        have hu1 : u = 1 := by rw [← HU.out]; unfold hV; rw [if_pos rfl]
        subst hu1
        go_upto_region 24 with fail
        obtain ⟨V, hV⟩ : ∃ V, V = (w3.alloc (.cells #[.int .u8 4, .int .i64 s, .int .i64 y, .int .i64 0, .int .i64 0, .int .u8 1] 27)).alloc (.cells #[.int .u8 4, .int .i64 s, .int .i64 y, .int .i64 0, .int .i64 0, .int .u8 1] 27) := ⟨_, rfl⟩
        have HV : Aside0 (Hd (fun w => IsStore w base c f2 g2 m2 (i + 1) S) w V S [(w3.heap.size + 1, bx6 4 s y 0 0 1), (w3.heap.size, bx6 4 s y 0 0 1), (gn, bx6 4 s y 0 0 0), (gx, .cells #[.int .u8 K, .int .u8 s0, .int .u8 y0, .int .u8 v] 38), (gt, .cells A 34 (0, 0)), (ga, .cells B 36 (0, 0))]) := ⟨by
          have h1 := (HE.out.alloc local_store (bx6 4 s y 0 0 1)).alloc local_store (bx6 4 s y 0 0 1)
          rw [World.size_alloc] at h1
          rw [hV]; exact h1⟩
        rw [← hV]
        obtain ⟨g9, hg9⟩ : ∃ g, g = w3.heap.size := ⟨_, rfl⟩
        rw [← hg9] at HV ⊢
        obtain ⟨gw, hgw⟩ : ∃ g, g = g9 + 1 := ⟨_, rfl⟩
        rw [← hgw] at HV ⊢
        clear hn0 hn1 hn2 hn3 hn4 hn5 hnf hgl hV HE hg9 hgw
        clear w3
        refine still_tail_at 6 (by kernel_rfl) (by kernel_rfl) ?_
        intro X eX bX
        have HX := Aside0.mk (HV.out.still local_store eX bX)
        clear eX bX HV
        clear V
        obtain ⟨hn0, hn1, hn2, hn3, hn4, hn5, hnf⟩ := HX.out.six (g := gn) (List.mem_cons_of_mem _ (List.mem_cons_of_mem _ List.mem_cons_self))
        obtain ⟨hc0, hcf⟩ := HX.out.at_ (g := ga) (t := 36) (j := s * 3 + y) (by simp) (HB'.out.at_ s y hs3 hy3)
        simp only [List.take_succ_cons, List.take_zero, List.drop_succ_cons, List.drop_zero]
        repeat still_step
        refine wpStill_nil ?_
        go_upto_region 25 with fail
        obtain ⟨V, hV⟩ : ∃ V, V = X.setCell ⟨ga, s * 3 + y, none⟩ (.bool false) := ⟨_, rfl⟩
        rw [← hV]
        have HV : Aside0 (Hd (fun w => IsStore w base c f2 g2 m2 (i + 1) S) w V S [(gw, bx6 4 s y 0 0 1), (g9, bx6 4 s y 0 0 1), (gn, bx6 4 s y 0 0 0), (gx, .cells #[.int .u8 K, .int .u8 s0, .int .u8 y0, .int .u8 v] 38), (gt, .cells A 34 (0, 0)), (ga, .cells (B.setIfInBounds (s * 3 + y) (.bool false)) 36 (0, 0))]) := ⟨by rw [hV]; exact HX.out.putL (P := [_, _, _, _, _]) local_store _ _ rfl⟩
        replace HB' := Aside0.mk (HB'.out.put hs3 hy3 false)
        clear hn0 hn1 hn2 hn3 hn4 hn5 hnf hc0 hcf hV HX
        clear X
        generalize (B.setIfInBounds (s * 3 + y) (.bool false)) = B at *
        have HBF : Aside0 (ArrB B g2) := ⟨by rw [← HG2.out]; unfold hA; rw [if_pos rfl]; exact HB'.out⟩
        obtain ⟨ff, hff⟩ : ∃ o, f s y = o := ⟨_, rfl⟩
        have HF := Aside0.mk hff
        clear hff
        cases ff
        case some u0 =>
          have hu := HI'.out.vals _ _ _ HF.out
          have hu0 : (u0 == 0) = false := by rcases hu with rfl | rfl <;> rfl
          have HAF : Aside0 (ArrS A f2) := ⟨by rw [← HF2.out]; unfold hF; rw [HF.out]; exact HA'.out⟩
          clear hu
          obtain ⟨hn0, hn1, hn2, hn3, hn4, hn5, hnf⟩ := HV.out.six (g := gn) (List.mem_cons_of_mem _ (List.mem_cons_of_mem _ List.mem_cons_self))
          obtain ⟨hc0, hcf⟩ := HV.out.at_ (g := gt) (t := 34) (j := s * 3 + y) (by simp) (HA'.out.at_ s y hs3 hy3)
          rw [HF.out] at hc0
          replace hc0 : V.cell? ⟨gt, s * 3 + y, none⟩ = some (.int .u8 u0) := hc0
          go_wp2_with fail
          go_quiet (fail)
          obtain ⟨Y, hY⟩ : ∃ Y, Y = V.drewN nq := ⟨_, rfl⟩
          rw [← hY]
          have HY := Aside0.mk (HV.out.drewN local_store nq)
          rw [← hY] at HY
          clear hn0 hn1 hn2 hn3 hn4 hn5 hnf hc0 hcf hY HV
          clear V
          obtain ⟨V, hV⟩ : ∃ V, V = Y := ⟨_, rfl⟩
          subst hV
          obtain ⟨hm0, hm1, hm2, hm3, hm4, hm5, hmf⟩ := HY.out.six (g := g9) (List.mem_cons_of_mem _ List.mem_cons_self)
          obtain ⟨hn0, hn1, hn2, hn3, hn4, hn5, hnf⟩ := HY.out.six (g := gw) List.mem_cons_self
          have hi60 : (i : Int) < 60 := by have := HN60.out; omega
          go_wp2_with fail
          go_roundg (n0 - (i + 1))
          case measure => have := hk.out; omega
          case rel => exact ⟨i + 1, by go_num, by omega, ⟨rfl⟩, ⟨⟨f2, g2, m2, _, _, S, HY.out.sub2, HAF.out, HBF.out, HE1.out⟩⟩⟩
        case none =>
          obtain ⟨hn0, hn1, hn2, hn3, hn4, hn5, hnf⟩ := HV.out.six (g := gn) (List.mem_cons_of_mem _ (List.mem_cons_of_mem _ List.mem_cons_self))
          obtain ⟨hc0, hcf⟩ := HV.out.at_ (g := gt) (t := 34) (j := s * 3 + y) (by simp) (HA'.out.at_ s y hs3 hy3)
          rw [HF.out] at hc0
          replace hc0 : V.cell? ⟨gt, s * 3 + y, none⟩ = some (.int .u8 0) := hc0
          go_wp2_with fail
          go_quiet (fail)
          obtain ⟨Y, hY⟩ : ∃ Y, Y = V.drewN nq := ⟨_, rfl⟩
          rw [← hY]
          have HY := Aside0.mk (HV.out.drewN local_store nq)
          rw [← hY] at HY
          clear hn0 hn1 hn2 hn3 hn4 hn5 hnf hc0 hcf hY HV
          clear V
          obtain ⟨V, hV⟩ : ∃ V, V = Y := ⟨_, rfl⟩
          subst hV
          go_wp2_with fail
          refine still_tail_at 6 (by kernel_rfl) (by kernel_rfl) ?_
          intro X eX bX
          have HX := Aside0.mk (HY.out.still local_store eX bX)
          clear eX bX HY
          clear V
          obtain ⟨hn0, hn1, hn2, hn3, hn4, hn5, hnf⟩ := HX.out.six (g := gn) (List.mem_cons_of_mem _ (List.mem_cons_of_mem _ List.mem_cons_self))
          obtain ⟨hc0, hcf⟩ := HX.out.at_ (g := gt) (t := 34) (j := s * 3 + y) (by simp) (HA'.out.at_ s y hs3 hy3)
          simp only [List.take_succ_cons, List.take_zero, List.drop_succ_cons, List.drop_zero]
          repeat still_step
          refine wpStill_nil ?_
          go_upto_region 33 with fail
          obtain ⟨V, hV⟩ : ∃ V, V = X.setCell ⟨gt, s * 3 + y, none⟩ (.int .u8 3) := ⟨_, rfl⟩
          rw [← hV]
          have HV : Aside0 (Hd (fun w => IsStore w base c f2 g2 m2 (i + 1) S) w V S [(gw, bx6 4 s y 0 0 1), (g9, bx6 4 s y 0 0 1), (gn, bx6 4 s y 0 0 0), (gx, .cells #[.int .u8 K, .int .u8 s0, .int .u8 y0, .int .u8 v] 38), (gt, .cells (A.setIfInBounds (s * 3 + y) (.int .u8 3)) 34 (0, 0)), (ga, .cells B 36 (0, 0))]) := ⟨by rw [hV]; exact HX.out.putL (P := [_, _, _, _]) local_store _ _ rfl⟩
          replace HA' := Aside0.mk (HA'.out.put hs3 hy3 3)
          clear hn0 hn1 hn2 hn3 hn4 hn5 hnf hc0 hcf hV HX
          clear X
          generalize (A.setIfInBounds (s * 3 + y) (.int .u8 3)) = A at *
          have HAF : Aside0 (ArrS A f2) := ⟨by rw [← HF2.out]; unfold hF; rw [HF.out]; dsimp only; rw [if_pos rfl]; exact HA'.out⟩
          obtain ⟨hm0, hm1, hm2, hm3, hm4, hm5, hmf⟩ := HV.out.six (g := g9) (List.mem_cons_of_mem _ List.mem_cons_self)
          obtain ⟨hn0, hn1, hn2, hn3, hn4, hn5, hnf⟩ := HV.out.six (g := gw) List.mem_cons_self
          have hi60 : (i : Int) < 60 := by have := HN60.out; omega
          go_wp2_with fail
          go_roundg (n0 - (i + 1))
          case measure => have := hk.out; omega
          case rel => exact ⟨i + 1, by go_num, by omega, ⟨rfl⟩, ⟨⟨f2, g2, m2, _, _, S, HV.out.sub2, HAF.out, HBF.out, HE1.out⟩⟩⟩
      case c5 =>
        go_upto_region 17 with fail
        obtain ⟨W, hW⟩ : ∃ W, W = (wr.alloc (.cells #[.int .u8 K, .int .u8 s0, .int .u8 y0, .int .u8 v] 38)).alloc (.cells #[.int .u8 4, .int .i64 s, .int .i64 y, .int .i64 0, .int .i64 0, .int .u8 0] 27) := ⟨_, rfl⟩
        have HD : Aside0 (Hd (fun w => IsStore w base c f g m i S) w W S [(wr.heap.size + 1, bx6 4 s y 0 0 0), (wr.heap.size, .cells #[.int .u8 K, .int .u8 s0, .int .u8 y0, .int .u8 v] 38), (gt, .cells A 34 (0, 0)), (ga, .cells B 36 (0, 0))]) := ⟨by rw [hW]; exact HG.out 4⟩
        rw [← hW]
        obtain ⟨gx, hgx⟩ : ∃ g, g = wr.heap.size := ⟨_, rfl⟩
        rw [← hgx] at HD ⊢
        obtain ⟨gn, hgn⟩ : ∃ g, g = gx + 1 := ⟨_, rfl⟩
        rw [← hgn] at HD ⊢
        clear hW HG HH' hgx hgn hx0 hx1 hx2 hx3
        clear wr
        obtain ⟨hn0, hn1, hn2, hn3, hn4, hn5, hnf⟩ := HD.out.six (g := gn) List.mem_cons_self
        have hx3 := (HD.out.at_ (g := gx) (j := 3) (v := .int .u8 v) (List.mem_cons_of_mem _ List.mem_cons_self) rfl).1
        go_wp2_with fail
        go_at_call 9
        have HE1 : Aside0 (Inv (hF f 4 s y v) (hA f g 4 s y v) (hM f g m 4 s y v)) := ⟨HI2.out 4 v⟩
        obtain ⟨u, hu⟩ : ∃ u, hV f 4 s y v = u := ⟨_, rfl⟩
        obtain ⟨f2, hf2⟩ : ∃ u, hF f 4 s y v = u := ⟨_, rfl⟩
        obtain ⟨g2, hg2⟩ : ∃ u, hA f g 4 s y v = u := ⟨_, rfl⟩
        obtain ⟨m2, hm2⟩ : ∃ u, hM f g m 4 s y v = u := ⟨_, rfl⟩
        rw [hf2, hg2, hm2] at HE1
        have HU := Aside0.mk hu
        have HF2 := Aside0.mk hf2
        have HG2 := Aside0.mk hg2
        refine (hear_as 4 s y 0 0 v W (by decide) HSW.out HYW.out HD.out.st LN.out u f2 g2 m2 hu hf2 hg2 hm2).mono ?_
        rintro e w3 ⟨rfl, C3, F3⟩
        have HE : Aside0 (Hd (fun w => IsStore w base c f2 g2 m2 (i + 1) S) w w3 S [(gn, bx6 4 s y 0 0 0), (gx, .cells #[.int .u8 K, .int .u8 s0, .int .u8 y0, .int .u8 v] 38), (gt, .cells A 34 (0, 0)), (ga, .cells B 36 (0, 0))]) := ⟨HD.out.turn F3 C3⟩
        clear hn0 hn1 hn2 hn3 hn4 hn5 hnf hx3 HD C3 F3 hu hf2 hg2 hm2 HI2
        clear W
        obtain ⟨hn0, hn1, hn2, hn3, hn4, hn5, hnf⟩ := HE.out.six (g := gn) List.mem_cons_self
        have hgl := blk_lt (HE.out.blk _ List.mem_cons_self)
        replace hgl : gn < w3.heap.size := hgl
        have hu1 : u = 1 := by rw [← HU.out]; unfold hV; rw [if_pos rfl]
        subst hu1
        go_upto_region 24 with fail
        obtain ⟨V, hV⟩ : ∃ V, V = (w3.alloc (.cells #[.int .u8 4, .int .i64 s, .int .i64 y, .int .i64 0, .int .i64 0, .int .u8 1] 27)).alloc (.cells #[.int .u8 4, .int .i64 s, .int .i64 y, .int .i64 0, .int .i64 0, .int .u8 1] 27) := ⟨_, rfl⟩
        have HV : Aside0 (Hd (fun w => IsStore w base c f2 g2 m2 (i + 1) S) w V S [(w3.heap.size + 1, bx6 4 s y 0 0 1), (w3.heap.size, bx6 4 s y 0 0 1), (gn, bx6 4 s y 0 0 0), (gx, .cells #[.int .u8 K, .int .u8 s0, .int .u8 y0, .int .u8 v] 38), (gt, .cells A 34 (0, 0)), (ga, .cells B 36 (0, 0))]) := ⟨by
          have h1 := (HE.out.alloc local_store (bx6 4 s y 0 0 1)).alloc local_store (bx6 4 s y 0 0 1)
          rw [World.size_alloc] at h1
          rw [hV]; exact h1⟩
        rw [← hV]
        obtain ⟨g9, hg9⟩ : ∃ g, g = w3.heap.size := ⟨_, rfl⟩
        rw [← hg9] at HV ⊢
        obtain ⟨gw, hgw⟩ : ∃ g, g = g9 + 1 := ⟨_, rfl⟩
        rw [← hgw] at HV ⊢
        clear hn0 hn1 hn2 hn3 hn4 hn5 hnf hgl hV HE hg9 hgw
        clear w3
        refine still_tail_at 6 (by kernel_rfl) (by kernel_rfl) ?_
        intro X eX bX
        have HX := Aside0.mk (HV.out.still local_store eX bX)
        clear eX bX HV
        clear V
        obtain ⟨hn0, hn1, hn2, hn3, hn4, hn5, hnf⟩ := HX.out.six (g := gn) (List.mem_cons_of_mem _ (List.mem_cons_of_mem _ List.mem_cons_self))
        obtain ⟨hc0, hcf⟩ := HX.out.at_ (g := ga) (t := 36) (j := s * 3 + y) (by simp) (HB'.out.at_ s y hs3 hy3)
        simp only [List.take_succ_cons, List.take_zero, List.drop_succ_cons, List.drop_zero]
        repeat still_step
        refine wpStill_nil ?_
        go_upto_region 25 with fail
        obtain ⟨V, hV⟩ : ∃ V, V = X.setCell ⟨ga, s * 3 + y, none⟩ (.bool false) := ⟨_, rfl⟩
        rw [← hV]
        have HV : Aside0 (Hd (fun w => IsStore w base c f2 g2 m2 (i + 1) S) w V S [(gw, bx6 4 s y 0 0 1), (g9, bx6 4 s y 0 0 1), (gn, bx6 4 s y 0 0 0), (gx, .cells #[.int .u8 K, .int .u8 s0, .int .u8 y0, .int .u8 v] 38), (gt, .cells A 34 (0, 0)), (ga, .cells (B.setIfInBounds (s * 3 + y) (.bool false)) 36 (0, 0))]) := ⟨by rw [hV]; exact HX.out.putL (P := [_, _, _, _, _]) local_store _ _ rfl⟩
        replace HB' := Aside0.mk (HB'.out.put hs3 hy3 false)
        clear hn0 hn1 hn2 hn3 hn4 hn5 hnf hc0 hcf hV HX
        clear X
        generalize (B.setIfInBounds (s * 3 + y) (.bool false)) = B at *
        have HBF : Aside0 (ArrB B g2) := ⟨by rw [← HG2.out]; unfold hA; rw [if_pos rfl]; exact HB'.out⟩
        obtain ⟨ff, hff⟩ : ∃ o, f s y = o := ⟨_, rfl⟩
        have HF := Aside0.mk hff
        clear hff
        cases ff
        case some u0 =>
          have hu := HI'.out.vals _ _ _ HF.out
          have hu0 : (u0 == 0) = false := by rcases hu with rfl | rfl <;> rfl
          have HAF : Aside0 (ArrS A f2) := ⟨by rw [← HF2.out]; unfold hF; rw [HF.out]; exact HA'.out⟩
          clear hu
          obtain ⟨hn0, hn1, hn2, hn3, hn4, hn5, hnf⟩ := HV.out.six (g := gn) (List.mem_cons_of_mem _ (List.mem_cons_of_mem _ List.mem_cons_self))
          obtain ⟨hc0, hcf⟩ := HV.out.at_ (g := gt) (t := 34) (j := s * 3 + y) (by simp) (HA'.out.at_ s y hs3 hy3)
          rw [HF.out] at hc0
          replace hc0 : V.cell? ⟨gt, s * 3 + y, none⟩ = some (.int .u8 u0) := hc0
          go_wp2_with fail
          go_quiet (fail)
          obtain ⟨Y, hY⟩ : ∃ Y, Y = V.drewN nq := ⟨_, rfl⟩
          rw [← hY]
          have HY := Aside0.mk (HV.out.drewN local_store nq)
          rw [← hY] at HY
          clear hn0 hn1 hn2 hn3 hn4 hn5 hnf hc0 hcf hY HV
          clear V
          obtain ⟨V, hV⟩ : ∃ V, V = Y := ⟨_, rfl⟩
          subst hV
          obtain ⟨hm0, hm1, hm2, hm3, hm4, hm5, hmf⟩ := HY.out.six (g := g9) (List.mem_cons_of_mem _ List.mem_cons_self)
          obtain ⟨hn0, hn1, hn2, hn3, hn4, hn5, hnf⟩ := HY.out.six (g := gw) List.mem_cons_self
          have hi60 : (i : Int) < 60 := by have := HN60.out; omega
          go_wp2_with fail
          go_roundg (n0 - (i + 1))
          case measure => have := hk.out; omega
          case rel => exact ⟨i + 1, by go_num, by omega, ⟨rfl⟩, ⟨⟨f2, g2, m2, _, _, S, HY.out.sub2, HAF.out, HBF.out, HE1.out⟩⟩⟩
        case none =>
          obtain ⟨hn0, hn1, hn2, hn3, hn4, hn5, hnf⟩ := HV.out.six (g := gn) (List.mem_cons_of_mem _ (List.mem_cons_of_mem _ List.mem_cons_self))
          obtain ⟨hc0, hcf⟩ := HV.out.at_ (g := gt) (t := 34) (j := s * 3 + y) (by simp) (HA'.out.at_ s y hs3 hy3)
          rw [HF.out] at hc0
          replace hc0 : V.cell? ⟨gt, s * 3 + y, none⟩ = some (.int .u8 0) := hc0
          go_wp2_with fail
          go_quiet (fail)
          obtain ⟨Y, hY⟩ : ∃ Y, Y = V.drewN nq := ⟨_, rfl⟩
          rw [← hY]
          have HY := Aside0.mk (HV.out.drewN local_store nq)
          rw [← hY] at HY
          clear hn0 hn1 hn2 hn3 hn4 hn5 hnf hc0 hcf hY HV
          clear V
          obtain ⟨V, hV⟩ : ∃ V, V = Y := ⟨_, rfl⟩
          subst hV
          go_wp2_with fail
          refine still_tail_at 6 (by kernel_rfl) (by kernel_rfl) ?_
          intro X eX bX
          have HX := Aside0.mk (HY.out.still local_store eX bX)
          clear eX bX HY
          clear V
          obtain ⟨hn0, hn1, hn2, hn3, hn4, hn5, hnf⟩ := HX.out.six (g := gn) (List.mem_cons_of_mem _ (List.mem_cons_of_mem _ List.mem_cons_self))
          obtain ⟨hc0, hcf⟩ := HX.out.at_ (g := gt) (t := 34) (j := s * 3 + y) (by simp) (HA'.out.at_ s y hs3 hy3)
          simp only [List.take_succ_cons, List.take_zero, List.drop_succ_cons, List.drop_zero]
          repeat still_step
          refine wpStill_nil ?_
          go_upto_region 33 with fail
          obtain ⟨V, hV⟩ : ∃ V, V = X.setCell ⟨gt, s * 3 + y, none⟩ (.int .u8 3) := ⟨_, rfl⟩
          rw [← hV]
          have HV : Aside0 (Hd (fun w => IsStore w base c f2 g2 m2 (i + 1) S) w V S [(gw, bx6 4 s y 0 0 1), (g9, bx6 4 s y 0 0 1), (gn, bx6 4 s y 0 0 0), (gx, .cells #[.int .u8 K, .int .u8 s0, .int .u8 y0, .int .u8 v] 38), (gt, .cells (A.setIfInBounds (s * 3 + y) (.int .u8 3)) 34 (0, 0)), (ga, .cells B 36 (0, 0))]) := ⟨by rw [hV]; exact HX.out.putL (P := [_, _, _, _]) local_store _ _ rfl⟩
          replace HA' := Aside0.mk (HA'.out.put hs3 hy3 3)
          clear hn0 hn1 hn2 hn3 hn4 hn5 hnf hc0 hcf hV HX
          clear X
          generalize (A.setIfInBounds (s * 3 + y) (.int .u8 3)) = A at *
          have HAF : Aside0 (ArrS A f2) := ⟨by rw [← HF2.out]; unfold hF; rw [HF.out]; dsimp only; rw [if_pos rfl]; exact HA'.out⟩
          obtain ⟨hm0, hm1, hm2, hm3, hm4, hm5, hmf⟩ := HV.out.six (g := g9) (List.mem_cons_of_mem _ List.mem_cons_self)
          obtain ⟨hn0, hn1, hn2, hn3, hn4, hn5, hnf⟩ := HV.out.six (g := gw) List.mem_cons_self
          have hi60 : (i : Int) < 60 := by have := HN60.out; omega
          go_wp2_with fail
          go_roundg (n0 - (i + 1))
          case measure => have := hk.out; omega
          case rel => exact ⟨i + 1, by go_num, by omega, ⟨rfl⟩, ⟨⟨f2, g2, m2, _, _, S, HV.out.sub2, HAF.out, HBF.out, HE1.out⟩⟩⟩
      case c6 =>
        go_upto_region 17 with fail
        obtain ⟨W, hW⟩ : ∃ W, W = (wr.alloc (.cells #[.int .u8 K, .int .u8 s0, .int .u8 y0, .int .u8 v] 38)).alloc (.cells #[.int .u8 5, .int .i64 s, .int .i64 y, .int .i64 0, .int .i64 0, .int .u8 0] 27) := ⟨_, rfl⟩
        have HD : Aside0 (Hd (fun w => IsStore w base c f g m i S) w W S [(wr.heap.size + 1, bx6 5 s y 0 0 0), (wr.heap.size, .cells #[.int .u8 K, .int .u8 s0, .int .u8 y0, .int .u8 v] 38), (gt, .cells A 34 (0, 0)), (ga, .cells B 36 (0, 0))]) := ⟨by rw [hW]; exact HG.out 5⟩
        rw [← hW]
        obtain ⟨gx, hgx⟩ : ∃ g, g = wr.heap.size := ⟨_, rfl⟩
        rw [← hgx] at HD ⊢
        obtain ⟨gn, hgn⟩ : ∃ g, g = gx + 1 := ⟨_, rfl⟩
        rw [← hgn] at HD ⊢
        clear hW HG HH' hgx hgn hx0 hx1 hx2 hx3
        clear wr
        obtain ⟨hn0, hn1, hn2, hn3, hn4, hn5, hnf⟩ := HD.out.six (g := gn) List.mem_cons_self
        have hx3 := (HD.out.at_ (g := gx) (j := 3) (v := .int .u8 v) (List.mem_cons_of_mem _ List.mem_cons_self) rfl).1
        go_wp2_with fail
        go_at_call 9
        refine (hear_not (some ⟨c, 0, none⟩) 5 s y 0 0 0 v W (.inr (.inr ⟨rfl, by decide, by decide, by decide⟩))).mono ?_
        rintro e w3 ⟨rfl, hB3⟩
        have HE := Aside0.mk (HD.out.belowed local_store hB3)
        have HE2 := Aside0.mk (HE.out.alloc local_store (bx6 0 0 0 0 0 0))
        clear hn0 hn1 hn2 hn3 hn4 hn5 hnf hx3 hB3 HD
        clear W
        obtain ⟨hn0, hn1, hn2, hn3, hn4, hn5, hnf⟩ := HE.out.six (g := gn) List.mem_cons_self
        have hgl := blk_lt (HE.out.blk _ List.mem_cons_self)
        have hi60 : (i : Int) < 60 := by have := HN60.out; omega
        go_wp2_with fail
        go_roundg (n0 - (i + 1))
        case measure => have := hk.out; omega
        case rel => exact ⟨i + 1, by go_num, by omega, ⟨rfl⟩, ⟨⟨f, g, m, A, B, S, HE2.out.tail.tail.tail.mono (fun w h => h.succ), HA'.out, HB'.out, HI'.out⟩⟩⟩
      case c3 =>
        obtain ⟨hK4, hK5, hK6⟩ := hK
        have j4 : (K % 7 == 4) = false := by simpa using hK4
        have j5 : (K % 7 == 5) = false := by simpa using hK5
        have j6 : (K % 7 == 6) = false := by simpa using hK6
        clear hK4 hK5 hK6
        go_upto_region 17 with fail
        obtain ⟨W, hW⟩ : ∃ W, W = (wr.alloc (.cells #[.int .u8 K, .int .u8 s0, .int .u8 y0, .int .u8 v] 38)).alloc (.cells #[.int .u8 3, .int .i64 s, .int .i64 y, .int .i64 0, .int .i64 0, .int .u8 0] 27) := ⟨_, rfl⟩
        have HD : Aside0 (Hd (fun w => IsStore w base c f g m i S) w W S [(wr.heap.size + 1, bx6 3 s y 0 0 0), (wr.heap.size, .cells #[.int .u8 K, .int .u8 s0, .int .u8 y0, .int .u8 v] 38), (gt, .cells A 34 (0, 0)), (ga, .cells B 36 (0, 0))]) := ⟨by rw [hW]; exact HG.out 3⟩
        rw [← hW]
        obtain ⟨gx, hgx⟩ : ∃ g, g = wr.heap.size := ⟨_, rfl⟩
        rw [← hgx] at HD ⊢
        obtain ⟨gn, hgn⟩ : ∃ g, g = gx + 1 := ⟨_, rfl⟩
        rw [← hgn] at HD ⊢
        clear hW HG HH' hgx hgn hx0 hx1 hx2 hx3
        clear wr
        obtain ⟨hn0, hn1, hn2, hn3, hn4, hn5, hnf⟩ := HD.out.six (g := gn) List.mem_cons_self
        have hx3 := (HD.out.at_ (g := gx) (j := 3) (v := .int .u8 v) (List.mem_cons_of_mem _ List.mem_cons_self) rfl).1
        go_wp2_with fail
        go_at_call 9
        have HE1 : Aside0 (Inv (hF f 3 s y v) (hA f g 3 s y v) (hM f g m 3 s y v)) := ⟨HI2.out 3 v⟩
        obtain ⟨u, hu⟩ : ∃ u, hV f 3 s y v = u := ⟨_, rfl⟩
        obtain ⟨f2, hf2⟩ : ∃ u, hF f 3 s y v = u := ⟨_, rfl⟩
        obtain ⟨g2, hg2⟩ : ∃ u, hA f g 3 s y v = u := ⟨_, rfl⟩
        obtain ⟨m2, hm2⟩ : ∃ u, hM f g m 3 s y v = u := ⟨_, rfl⟩
        rw [hf2, hg2, hm2] at HE1
        have HU := Aside0.mk hu
        have HF2 := Aside0.mk hf2
        have HG2 := Aside0.mk hg2
        refine (hear_as 3 s y 0 0 v W (by decide) HSW.out HYW.out HD.out.st LN.out u f2 g2 m2 hu hf2 hg2 hm2).mono ?_
        rintro e w3 ⟨rfl, C3, F3⟩
        have HE : Aside0 (Hd (fun w => IsStore w base c f2 g2 m2 (i + 1) S) w w3 S [(gn, bx6 3 s y 0 0 0), (gx, .cells #[.int .u8 K, .int .u8 s0, .int .u8 y0, .int .u8 v] 38), (gt, .cells A 34 (0, 0)), (ga, .cells B 36 (0, 0))]) := ⟨HD.out.turn F3 C3⟩
        clear hn0 hn1 hn2 hn3 hn4 hn5 hnf hx3 HD C3 F3 hu hf2 hg2 hm2 HI2
        clear W
        obtain ⟨hn0, hn1, hn2, hn3, hn4, hn5, hnf⟩ := HE.out.six (g := gn) List.mem_cons_self
        have hgl := blk_lt (HE.out.blk _ List.mem_cons_self)
        replace hgl : gn < w3.heap.size := hgl
        go_upto_region 27 with fail
        obtain ⟨V, hV⟩ : ∃ V, V = (w3.alloc (.cells #[.int .u8 3, .int .i64 s, .int .i64 y, .int .i64 0, .int .i64 0, .int .u8 u] 27)).alloc (.cells #[.int .u8 3, .int .i64 s, .int .i64 y, .int .i64 0, .int .i64 0, .int .u8 0] 27) := ⟨_, rfl⟩
        have HV : Aside0 (Hd (fun w => IsStore w base c f2 g2 m2 (i + 1) S) w V S [(w3.heap.size + 1, bx6 3 s y 0 0 0), (w3.heap.size, bx6 3 s y 0 0 u), (gn, bx6 3 s y 0 0 0), (gx, .cells #[.int .u8 K, .int .u8 s0, .int .u8 y0, .int .u8 v] 38), (gt, .cells A 34 (0, 0)), (ga, .cells B 36 (0, 0))]) := ⟨by
          have h1 := (HE.out.alloc local_store (bx6 3 s y 0 0 u)).alloc local_store (bx6 3 s y 0 0 0)
          rw [World.size_alloc] at h1
          rw [hV]; exact h1⟩
        rw [← hV]
        obtain ⟨g9, hg9⟩ : ∃ g, g = w3.heap.size := ⟨_, rfl⟩
        rw [← hg9] at HV ⊢
        obtain ⟨gw, hgw⟩ : ∃ g, g = g9 + 1 := ⟨_, rfl⟩
        rw [← hgw] at HV ⊢
        clear hn0 hn1 hn2 hn3 hn4 hn5 hnf hgl hV HE hg9 hgw
        clear w3
        obtain ⟨ff, hff⟩ : ∃ o, f s y = o := ⟨_, rfl⟩
        have HF := Aside0.mk hff
        clear hff
        cases ff
        case' some u0 =>
          have hu := HI'.out.vals _ _ _ HF.out
          have hu0 : (u0 == 0) = false := by rcases hu with rfl | rfl <;> rfl
          have HAF : Aside0 (ArrS A f2) := ⟨by rw [← HF2.out]; unfold hF; rw [HF.out]; exact HA'.out⟩
          have HBF : Aside0 (ArrB B g2) := ⟨by rw [← HG2.out]; unfold hA; rw [if_neg (by decide), HF.out]; exact HB'.out⟩
          have HFU : Aside0 (f2 s y = some u) := ⟨by rw [← HU.out, ← HF2.out]; unfold hV hF; rw [if_neg (by decide), HF.out]; exact HF.out⟩
          clear hu
          obtain ⟨hn0, hn1, hn2, hn3, hn4, hn5, hnf⟩ := HV.out.six (g := gn) (List.mem_cons_of_mem _ (List.mem_cons_of_mem _ List.mem_cons_self))
          obtain ⟨hc0, hcf⟩ := HV.out.at_ (g := gt) (t := 34) (j := s * 3 + y) (by simp) (HA'.out.at_ s y hs3 hy3)
          rw [HF.out] at hc0
          replace hc0 : V.cell? ⟨gt, s * 3 + y, none⟩ = some (.int .u8 u0) := hc0
          go_wp2_with fail
          go_quiet (fail)
          obtain ⟨Y, hY⟩ : ∃ Y, Y = V.drewN nq := ⟨_, rfl⟩
          rw [← hY]
          have HY := Aside0.mk (HV.out.drewN local_store nq)
          rw [← hY] at HY
          clear hn0 hn1 hn2 hn3 hn4 hn5 hnf hc0 hcf hY HV
          clear V
          obtain ⟨V, hV⟩ : ∃ V, V = Y := ⟨_, rfl⟩
          subst hV
          clear hu0
          go_upto_region 32 with fail
          have HV := HY
        case' none =>
          obtain ⟨hn0, hn1, hn2, hn3, hn4, hn5, hnf⟩ := HV.out.six (g := gn) (List.mem_cons_of_mem _ (List.mem_cons_of_mem _ List.mem_cons_self))
          obtain ⟨hc0, hcf⟩ := HV.out.at_ (g := gt) (t := 34) (j := s * 3 + y) (by simp) (HA'.out.at_ s y hs3 hy3)
          rw [HF.out] at hc0
          replace hc0 : V.cell? ⟨gt, s * 3 + y, none⟩ = some (.int .u8 0) := hc0
          go_wp2_with fail
          go_quiet (fail)
          obtain ⟨Y, hY⟩ : ∃ Y, Y = V.drewN nq := ⟨_, rfl⟩
          rw [← hY]
          have HY := Aside0.mk (HV.out.drewN local_store nq)
          rw [← hY] at HY
          clear hn0 hn1 hn2 hn3 hn4 hn5 hnf hc0 hcf hY HV
          clear V
          obtain ⟨V, hV⟩ : ∃ V, V = Y := ⟨_, rfl⟩
          subst hV
          go_wp2_with fail
          refine still_tail_at 6 (by kernel_rfl) (by kernel_rfl) ?_
          intro X eX bX
          have HX := Aside0.mk (HY.out.still local_store eX bX)
          clear eX bX HY
          clear V
          obtain ⟨hn0, hn1, hn2, hn3, hn4, hn5, hnf⟩ := HX.out.six (g := gn) (List.mem_cons_of_mem _ (List.mem_cons_of_mem _ List.mem_cons_self))
          obtain ⟨hc0, hcf⟩ := HX.out.at_ (g := gt) (t := 34) (j := s * 3 + y) (by simp) (HA'.out.at_ s y hs3 hy3)
          simp only [List.take_succ_cons, List.take_zero, List.drop_succ_cons, List.drop_zero]
          repeat still_step
          refine wpStill_nil ?_
          go_upto_region 29 with fail
          obtain ⟨V, hV⟩ : ∃ V, V = X.setCell ⟨gt, s * 3 + y, none⟩ (.int .u8 3) := ⟨_, rfl⟩
          rw [← hV]
          have HV : Aside0 (Hd (fun w => IsStore w base c f2 g2 m2 (i + 1) S) w V S [(gw, bx6 3 s y 0 0 0), (g9, bx6 3 s y 0 0 u), (gn, bx6 3 s y 0 0 0), (gx, .cells #[.int .u8 K, .int .u8 s0, .int .u8 y0, .int .u8 v] 38), (gt, .cells (A.setIfInBounds (s * 3 + y) (.int .u8 3)) 34 (0, 0)), (ga, .cells B 36 (0, 0))]) := ⟨by rw [hV]; exact HX.out.putL (P := [_, _, _, _]) local_store _ _ rfl⟩
          replace HA' := Aside0.mk (HA'.out.put hs3 hy3 3)
          clear hn0 hn1 hn2 hn3 hn4 hn5 hnf hc0 hcf hV HX
          clear X
          generalize (A.setIfInBounds (s * 3 + y) (.int .u8 3)) = A at *
          have hx3 := (HV.out.at_ (g := gx) (j := 3) (v := .int .u8 v) (List.mem_cons_of_mem _ (List.mem_cons_of_mem _ (List.mem_cons_of_mem _ List.mem_cons_self))) rfl).1
          by_cases hv : v = 1
          case' neg =>
            have hv1 : (v == 1) = false := by simpa using hv
            have HAF : Aside0 (ArrS A f2) := ⟨by rw [← HF2.out]; unfold hF; rw [HF.out]; dsimp only; rw [if_neg (by decide), if_neg hv]; exact HA'.out⟩
            have HBF : Aside0 (ArrB B g2) := ⟨by rw [← HG2.out]; unfold hA; rw [if_neg (by decide), HF.out]; dsimp only; rw [if_neg hv]; exact HB'.out⟩
            have HFU : Aside0 (f2 s y = some u) := ⟨by rw [← HU.out, ← HF2.out]; unfold hV hF; rw [if_neg (by decide), HF.out]; dsimp only; rw [if_neg hv, if_neg (by decide)]; simp [upd]⟩
            clear hv
            go_upto_region 32 with fail
            clear hx3 hv1
          case' pos =>
            have hv1 : (v == 1) = true := by simpa using hv
            have HV1 := Aside0.mk hv
            clear hv
            go_upto_region 30 with fail
            clear hx3 hv1
            refine still_tail_at 6 (by kernel_rfl) (by kernel_rfl) ?_
            intro X eX bX
            have HX := Aside0.mk (HV.out.still local_store eX bX)
            clear eX bX HV
            clear V
            obtain ⟨hn0, hn1, hn2, hn3, hn4, hn5, hnf⟩ := HX.out.six (g := gn) (List.mem_cons_of_mem _ (List.mem_cons_of_mem _ List.mem_cons_self))
            obtain ⟨hc0, hcf⟩ := HX.out.at_ (g := gt) (t := 34) (j := s * 3 + y) (by simp) (HA'.out.at_ s y hs3 hy3)
            simp only [List.take_succ_cons, List.take_zero, List.drop_succ_cons, List.drop_zero]
            repeat still_step
            refine wpStill_nil ?_
            go_upto_region 31 with fail
            obtain ⟨V, hV⟩ : ∃ V, V = X.setCell ⟨gt, s * 3 + y, none⟩ (.int .u8 1) := ⟨_, rfl⟩
            rw [← hV]
            have HV : Aside0 (Hd (fun w => IsStore w base c f2 g2 m2 (i + 1) S) w V S [(gw, bx6 3 s y 0 0 0), (g9, bx6 3 s y 0 0 u), (gn, bx6 3 s y 0 0 0), (gx, .cells #[.int .u8 K, .int .u8 s0, .int .u8 y0, .int .u8 v] 38), (gt, .cells (A.setIfInBounds (s * 3 + y) (.int .u8 1)) 34 (0, 0)), (ga, .cells B 36 (0, 0))]) := ⟨by rw [hV]; exact HX.out.putL (P := [_, _, _, _]) local_store _ _ rfl⟩
            replace HA' := Aside0.mk (HA'.out.put hs3 hy3 1)
            clear hn0 hn1 hn2 hn3 hn4 hn5 hnf hc0 hcf hV HX
            clear X
            generalize (A.setIfInBounds (s * 3 + y) (.int .u8 1)) = A at *
            refine still_tail_at 6 (by kernel_rfl) (by kernel_rfl) ?_
            intro X eX bX
            have HX := Aside0.mk (HV.out.still local_store eX bX)
            clear eX bX HV
            clear V
            obtain ⟨hn0, hn1, hn2, hn3, hn4, hn5, hnf⟩ := HX.out.six (g := gn) (List.mem_cons_of_mem _ (List.mem_cons_of_mem _ List.mem_cons_self))
            obtain ⟨hc0, hcf⟩ := HX.out.at_ (g := ga) (t := 36) (j := s * 3 + y) (by simp) (HB'.out.at_ s y hs3 hy3)
            simp only [List.take_succ_cons, List.take_zero, List.drop_succ_cons, List.drop_zero]
            repeat still_step
            refine wpStill_nil ?_
            go_upto_region 32 with fail
            obtain ⟨V, hV⟩ : ∃ V, V = X.setCell ⟨ga, s * 3 + y, none⟩ (.bool true) := ⟨_, rfl⟩
            rw [← hV]
            have HV : Aside0 (Hd (fun w => IsStore w base c f2 g2 m2 (i + 1) S) w V S [(gw, bx6 3 s y 0 0 0), (g9, bx6 3 s y 0 0 u), (gn, bx6 3 s y 0 0 0), (gx, .cells #[.int .u8 K, .int .u8 s0, .int .u8 y0, .int .u8 v] 38), (gt, .cells A 34 (0, 0)), (ga, .cells (B.setIfInBounds (s * 3 + y) (.bool true)) 36 (0, 0))]) := ⟨by rw [hV]; exact HX.out.putL (P := [_, _, _, _, _]) local_store _ _ rfl⟩
            replace HB' := Aside0.mk (HB'.out.put hs3 hy3 true)
            clear hn0 hn1 hn2 hn3 hn4 hn5 hnf hc0 hcf hV HX
            clear X
            generalize (B.setIfInBounds (s * 3 + y) (.bool true)) = B at *
            have HAF : Aside0 (ArrS A f2) := ⟨by
              rw [← HF2.out]; unfold hF; rw [HF.out]; dsimp only; rw [if_neg (by decide), if_pos HV1.out]
              have e : upd (upd f s y 3) s y 1 = upd f s y 1 := by funext a b; simp only [upd]; split <;> rfl
              rw [← e]; exact HA'.out⟩
            have HBF : Aside0 (ArrB B g2) := ⟨by rw [← HG2.out]; unfold hA; rw [if_neg (by decide), HF.out]; dsimp only; rw [if_pos HV1.out]; exact HB'.out⟩
            have HFU : Aside0 (f2 s y = some u) := ⟨by rw [← HU.out, ← HF2.out]; unfold hV hF; rw [if_neg (by decide), HF.out]; dsimp only; rw [if_pos HV1.out, if_neg (by decide)]; simp [upd]⟩
        all_goals
          refine still_tail_at 8 (by kernel_rfl) (by kernel_rfl) ?_
          intro X eX bX
          have HX := Aside0.mk (HV.out.still local_store eX bX)
          clear eX bX HV
          obtain ⟨hn0, hn1, hn2, hn3, hn4, hn5, hnf⟩ := HX.out.six (g := gn) (List.mem_cons_of_mem _ (List.mem_cons_of_mem _ List.mem_cons_self))
          obtain ⟨hm0, hm1, hm2, hm3, hm4, hm5, hmf⟩ := HX.out.six (g := gw) List.mem_cons_self
          obtain ⟨hc0, hcf⟩ := HX.out.at_ (g := gt) (t := 34) (j := s * 3 + y) (by simp) (HAF.out.at_ s y hs3 hy3)
          rw [HFU.out] at hc0
          replace hc0 : X.cell? ⟨gt, s * 3 + y, none⟩ = some (.int .u8 u) := hc0
          simp only [List.take_succ_cons, List.take_zero, List.drop_succ_cons, List.drop_zero]
          repeat still_step
          refine wpStill_nil ?_
          go_upto_region 33 with fail
          obtain ⟨V, hV⟩ : ∃ V, V = X.setCell ⟨gw, 5, none⟩ (.int .u8 u) := ⟨_, rfl⟩
          rw [← hV]
          have HV : Aside0 (Hd (fun w => IsStore w base c f2 g2 m2 (i + 1) S) w V S [(gw, bx6 3 s y 0 0 u), (g9, bx6 3 s y 0 0 u), (gn, bx6 3 s y 0 0 0), (gx, .cells #[.int .u8 K, .int .u8 s0, .int .u8 y0, .int .u8 v] 38), (gt, .cells A 34 (0, 0)), (ga, .cells B 36 (0, 0))]) := ⟨by rw [hV]; exact HX.out.putL (P := []) local_store 5 (.int .u8 u) rfl⟩
          clear hn0 hn1 hn2 hn3 hn4 hn5 hnf hm0 hm1 hm2 hm3 hm4 hm5 hmf hc0 hcf hV HX
          clear X
          obtain ⟨hm0, hm1, hm2, hm3, hm4, hm5, hmf⟩ := HV.out.six (g := g9) (List.mem_cons_of_mem _ List.mem_cons_self)
          obtain ⟨hn0, hn1, hn2, hn3, hn4, hn5, hnf⟩ := HV.out.six (g := gw) List.mem_cons_self
          have hi60 : (i : Int) < 60 := by have := HN60.out; omega
          go_wp2_with fail
          go_roundg (n0 - (i + 1))
          case measure => have := hk.out; omega
          case rel => exact ⟨i + 1, by go_num, by omega, ⟨rfl⟩, ⟨⟨f2, g2, m2, _, _, S, HV.out.sub2, HAF.out, HBF.out, HE1.out⟩⟩⟩
    · obtain rfl : i = n0 := by omega
      have HG : Aside0 (ArrB B g) := HB'
      have HK : Aside0 (Hd (fun w => IsStore w base c f g m i S) w wr S [(gt, .cells A 34 (0, 0)), (ga, .cells B 36 (0, 0))]) := HH'
      clear HH HA HB HI HR HH' HA' HB' HR0
      obtain ⟨wo, hwo⟩ : ∃ wo, wo = wr := ⟨_, rfl⟩
      rw [← hwo] at HK ⊢
      clear hwo
      clear wr
      go_wp2_with fail
      go_loopg [12, 13] 3 (fun kq v12 v13 wr => ∃ a : Nat, v13 = .int .i64 a ∧ a ≤ 3 ∧ v12 = .int .i64 (psum g (a * 3)) ∧ Aside0 (kq = 3 - a) ∧ Aside0 (Hd (fun w => IsStore w base c f g m i S) w wr S [(gt, .cells A 34 (0, 0)), (ga, .cells B 36 (0, 0))]))
      case atStart => exact ⟨0, rfl, by omega, rfl, ⟨rfl⟩, HK⟩
      case round =>
        obtain ⟨a, rfl, ha, rfl, hka, HL⟩ := hrel
        obtain ⟨wp, hwp⟩ : ∃ wo, wo = wr := ⟨_, rfl⟩
        rw [← hwp] at HL ⊢
        clear hwp
        clear wr
        by_cases ha3 : a < 3
        · have ha4 : (a : Int) < 3 := by omega
          go_wp2_with fail
          go_loopg [12, 14] 3 (fun kq v12 v14 wr => ∃ b : Nat, v14 = .int .i64 b ∧ b ≤ 3 ∧ v12 = .int .i64 (psum g (a * 3 + b)) ∧ Aside0 (kq = 3 - b) ∧ Aside0 (Hd (fun w => IsStore w base c f g m i S) w wr S [(gt, .cells A 34 (0, 0)), (ga, .cells B 36 (0, 0))]))
          case atStart => exact ⟨0, rfl, by omega, rfl, ⟨rfl⟩, HL⟩
          case round =>
            obtain ⟨b, rfl, hb, rfl, hkb, HM⟩ := hrel
            by_cases hb3 : b < 3
            · have hb4 : (b : Int) < 3 := by omega
              have HP := Aside0.mk (psum_at g a b hb3)
              have hpl := psum_le g (a * 3 + b)
              have hp9 : (psum g (a * 3 + b) : Int) ≤ 9 := by omega
              have hw : ∀ z : Nat, z < 3 → (Lit.int .i64 (z : Int)).wf = true := fun z hz => (Lit.wf_int_iff _ _).2 (by rw [show IntKind.i64.min = -9223372036854775808 by decide, show IntKind.i64.max = 9223372036854775807 by decide]; omega)
              have HAS : Aside0 (∀ nq, Calls Try.prog 10 #[.pointer (some ⟨c, 0, none⟩), .int .i64 a, .int .i64 b] (wr.drewN nq) fun e w' => e = .returned (.bool (g a b)) ∧ w' = wr.drewN nq) := ⟨fun nq => aside_store a b _ (hw a ha3) (hw b hb3) (HM.out.drewN local_store nq).st⟩
              obtain ⟨hc0, hcf⟩ := HM.out.at_ (g := ga) (t := 36) (j := a * 3 + b) (by simp) (HG.out.at_ a b ha3 hb3)
              obtain ⟨x, hx⟩ : ∃ x, g a b = x := ⟨_, rfl⟩
              rw [hx] at hc0 HAS HP
              clear hw hpl hx
              cases x
              all_goals
                go_wp2_with fail
                go_quiet ((go_at_call 10; exact Calls.quiet_of_same (HAS.out _)))
                have HN := Aside0.mk (HM.out.drewN local_store nq)
                go_wp2_with fail
                go_roundg (3 - (b + 1))
                case measure => have := hkb.out; omega
                case rel =>
                  refine ⟨b + 1, by go_num, by omega, ?_, ⟨rfl⟩, HN⟩
                  rw [show a * 3 + (b + 1) = a * 3 + b + 1 from rfl, HP.out]
                  simp [one]
            · obtain rfl : b = 3 := by omega
              go_wp2_with fail
              go_roundg (3 - (a + 1))
              case measure => have := hka.out; omega
              case rel =>
                refine ⟨a + 1, by go_num, by omega, ?_, ⟨rfl⟩, HM⟩
                rw [show (a + 1) * 3 = a * 3 + 3 by omega]
        · obtain rfl : a = 3 := by omega
          have hm : m = psum g (3 * 3) := by rw [HI'.out.cnt, ← psum_nine]
          generalize psum g (3 * 3) = q at *
          subst hm
          have HCS := Aside0.mk (count_store _ HL.out.st)
          have HBL := Aside0.mk HL.out.below
          go_wp2_with fail
          go_at_call 11
          refine HCS.out.mono ?_
          rintro e w5 ⟨rfl, rfl⟩
          go_wp2
          go_ret
          exact ⟨rfl, HBL.out⟩
theorem plays_all (A0 : Option Addr) (n0 c0 : Nat) (Z : Nat → Nat → Int) (w : World) (r0 : RowA w A0 n0 Z) :
    Calls Try.prog 4 #[.slice A0 n0 c0] w fun e w' => e = .returned (.bool true) ∧ Below w.heap.size w w' := by
  by_cases h : 60 < n0
  · exact plays_not A0 n0 c0 w h
  · exact plays_any A0 n0 c0 Z w (by omega) r0
end Go.Proofs.Ytjfckbdeadnfhaa
