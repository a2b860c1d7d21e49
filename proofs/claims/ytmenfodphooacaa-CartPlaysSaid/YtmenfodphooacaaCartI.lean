/- CartPlays: things that are sent, again and again. -/
import Derived.Test.YtmenfodphooacaaCartJ
import Derived.Outline
import Derived.DataShut
namespace Go.Proofs.Ytmenfodphooacaa
open Go.RowKit Go.Maps Go.Proofs.YtmenfodphooacaaW.PrintWords
set_option linter.unusedVariables false

set_option maxRecDepth 100000 in
set_option maxHeartbeats 4000000 in
theorem plays_not (A0 A1 A2 : Option Addr) (n0 n1 n2 c0 c1 c2 : Nat) (w : World) (h : 50 < n0 ∨ n1 < n0 ∨ n2 < n0) :
    Calls Try.prog 3 #[.slice A0 n0 c0, .slice A1 n1 c1, .slice A2 n2 c2] w fun e w' => e = .returned (.bool true) ∧ Below w.heap.size w w' := by
  rcases (show 50 < n0 ∨ (n0 ≤ 50 ∧ n1 < n0) ∨ (n0 ≤ 50 ∧ n0 ≤ n1 ∧ n2 < n0) by omega) with h | ⟨h1, h⟩ | ⟨h1, h2, h⟩
  · go_enter Try.func3, Try.ntmps3
    go_wp2_with fail
    go_at_call 6
    refine (awake_any _).mono ?_
    rintro e w1 ⟨rfl, hB1⟩
    have HB1 := Aside0.mk hB1
    clear hB1
    go_wp2_with fail
    go_at_call 6
    refine (awake_any _).mono ?_
    rintro e w2 ⟨rfl, hB2⟩
    have HB2 := Aside0.mk hB2
    clear hB2
    go_wp2
    go_ret
    exact ⟨rfl, HB1.out.trans (HB2.out.mono HB1.out.size)⟩
  · have q1 : decide ((50 : Int) < n0) = false := by simp; omega
    go_enter Try.func3, Try.ntmps3
    go_wp2_with fail
    go_at_call 6
    refine (awake_any _).mono ?_
    rintro e w1 ⟨rfl, hB1⟩
    have HB1 := Aside0.mk hB1
    clear hB1
    go_wp2_with fail
    go_at_call 6
    refine (awake_any _).mono ?_
    rintro e w2 ⟨rfl, hB2⟩
    have HB2 := Aside0.mk hB2
    clear hB2
    go_wp2
    go_ret
    exact ⟨rfl, HB1.out.trans (HB2.out.mono HB1.out.size)⟩
  · have q1 : decide ((50 : Int) < n0) = false := by simp; omega
    have q2 : decide (n1 < n0) = false := by simp; omega
    go_enter Try.func3, Try.ntmps3
    go_wp2_with fail
    go_at_call 6
    refine (awake_any _).mono ?_
    rintro e w1 ⟨rfl, hB1⟩
    have HB1 := Aside0.mk hB1
    clear hB1
    go_wp2_with fail
    go_at_call 6
    refine (awake_any _).mono ?_
    rintro e w2 ⟨rfl, hB2⟩
    have HB2 := Aside0.mk hB2
    clear hB2
    go_wp2
    go_ret
    exact ⟨rfl, HB1.out.trans (HB2.out.mono HB1.out.size)⟩
abbrev zA : Array Value := #[.int .u8 0, .int .u8 0, .int .u8 0, .int .u8 0, .int .u8 0, .int .u8 0, .int .u8 0, .int .u8 0, .int .u8 0]
/-- The head of a round. -/
structure Round (w0 w : World) (base c gs i : Nat) (v9 : Value) : Prop where
  ex : ∃ f l A G9, Heard w0 w base c f l i ((gs, .cells A 27 (0, 0)) :: G9) ∧ SaidArr A f ∧ Inv f l ∧ RowG G9 w0.heap.size v9 l ∧ (∀ p ∈ G9, ∃ cur, p.2 = .cells cur 32 (0, 0)) ∧ w0.heap.size ≤ gs
theorem u8_wf {n : Int} (h : (Lit.int .u8 n).wf = true) : 0 ≤ n ∧ n ≤ 255 := by
  have := (Lit.wf_int_iff _ _).1 h
  have h1 : IntKind.u8.min = 0 := by decide
  have h2 : IntKind.u8.max = 255 := by decide
  rw [h1, h2] at this
  exact this
theorem row_ge {w : World} {b n : Nat} {e : TypeId} {size : Nat} {v : Value} {xs : List Value} (h : w.ownsRow b e size v n xs) : ∀ k, some k = v.ownBlock → b ≤ k := by
  intro k hk
  obtain ⟨h0, (⟨rfl, hx⟩ | ⟨g, cap, cur, rfl, h1, h2, h3⟩)⟩ := h
  · simp [Value.ownBlock] at hk
  · simp [Value.ownBlock] at hk; subst hk; exact h1
set_option maxRecDepth 100000 in
set_option maxHeartbeats 4000000 in
theorem plays_any (A0 A1 A2 : Option Addr) (n0 n1 n2 c0 c1 c2 : Nat) (z0 z1 z2 : List Int) (w : World) (h0 : n0 ≤ 50) (h1 : n0 ≤ n1) (h2 : n0 ≤ n2) (r0 : RowIn .u8 w A0 n0 z0) (r1 : RowIn .u8 w A1 n1 z1) (r2 : RowIn .u8 w A2 n2 z2) :
    Calls Try.prog 3 #[.slice A0 n0 c0, .slice A1 n1 c1, .slice A2 n2 c2] w fun e w' => e = .returned (.bool true) ∧ Below w.heap.size w w' := by
  have R0 := Aside0.mk r0
  have R1 := Aside0.mk r1
  have R2 := Aside0.mk r2
  clear r0 r1 r2
  have q1 : decide ((50 : Int) < n0) = false := by simp; omega
  have q2 : decide (n1 < n0) = false := by simp; omega
  have q3 : decide (n2 < n0) = false := by simp; omega
  go_enter Try.func3, Try.ntmps3
  go_wp2_with fail
  go_at_call 6
  refine (awake_any _).mono ?_
  rintro e w1 ⟨rfl, hB1⟩
  have HB1 := Aside0.mk hB1
  clear hB1
  go_wp2_with fail
  go_at_call 7
  refine (new_cart (base := w1.heap.size) w1 (Nat.le_refl _)).mono ?_
  rintro e w2 ⟨c, S, rfl, HC, hB, hS⟩
  have HB2 := Aside0.mk (HB1.out.trans (hB.mono HB1.out.size))
  have HCC := Aside0.mk HC
  have HSS := Aside0.mk hS
  have HS1 : Aside0 (∀ i, S i → w.heap.size ≤ i) := ⟨fun i h => Nat.le_trans HB1.out.size (hS i h)⟩
  have HB3 : Aside0 (w1.heap.size ≤ w2.heap.size) := ⟨hB.size⟩
  have HH0 : Aside0 (Heard w w2 w1.heap.size c (fun _ _ => none) [] 0 []) := ⟨⟨⟨S, HC, by simp, HS1.out⟩, by simp, HB2.out, HB3.out⟩⟩
  have HLO : Aside0 (w.heap.size ≤ w2.heap.size) := ⟨HB2.out.size⟩
  obtain ⟨base, hbase⟩ : ∃ b, b = w1.heap.size := ⟨_, rfl⟩
  rw [← hbase] at HH0
  clear hB HC hS HCC HSS HS1 HB1 HB2 HB3 hbase
  clear w1
  have HR0 : Aside0 (Round w (w2.alloc (.cells zA 27)) base c w2.heap.size 0 (.slice none 0 0)) := ⟨⟨_, _, zA, [], HH0.out.alloc _, SaidArr.nil, Inv.nil, RowG.nil _ _, by simp, HLO.out⟩⟩
  go_wp2_with fail
  obtain ⟨gs, hgs⟩ : ∃ gs, gs = w2.heap.size := ⟨_, rfl⟩
  rw [← hgs] at HR0 ⊢
  clear HH0 HLO hgs
  go_loopg [9, 10] n0 (fun kq v9 v10 wr => ∃ i : Nat, v10 = .int .i64 i ∧ i ≤ n0 ∧ Aside0 (kq = n0 - i) ∧ Aside0 (Round w wr base c gs i v9))
  case atStart => exact ⟨0, rfl, Nat.zero_le _, ⟨rfl⟩, HR0⟩
  case round =>
    obtain ⟨i, rfl, hi, hk, HR⟩ := hrel
    obtain ⟨f, l, A, G9, HH, HA, HI, HG, HT, HGS⟩ := HR.out.ex
    by_cases hlt : i < n0
    · obtain ⟨x0, e0, hx0⟩ := R0.out.at HH.below i hlt
      obtain ⟨x1, e1, hx1⟩ := R1.out.at HH.below i (by omega)
      obtain ⟨x2, e2, hx2⟩ := R2.out.at HH.below i (by omega)
      cases e0
      cases e1
      cases e2
      have b0 := u8_wf (R0.out.wf_at i hlt)
      have b1 := u8_wf (R1.out.wf_at i (by omega))
      have b2 := u8_wf (R2.out.wf_at i (by omega))
      obtain ⟨s, hs⟩ : ∃ s : Nat, z0.getD i 0 % 3 = (s : Int) := ⟨(z0.getD i 0 % 3).toNat, by omega⟩
      obtain ⟨y, hy⟩ : ∃ y : Nat, z1.getD i 0 % 3 = (y : Int) := ⟨(z1.getD i 0 % 3).toNat, by omega⟩
      have hs3 : s < 3 := by omega
      have hy3 : y < 3 := by omega
      have hsI : (s : Int) < 3 := by omega
      have hyI : (y : Int) < 3 := by omega
      generalize z0.getD i 0 = a0 at hx0 b0 hs
      generalize z1.getD i 0 = a1 at hx1 b1 hy
      obtain ⟨a2, ha2⟩ : ∃ a, z2.getD i 0 = a := ⟨_, rfl⟩
      rw [ha2] at hx2 b2
      have H2 := Aside0.mk ha2
      clear ha2
      obtain ⟨b00, b01⟩ := b0
      obtain ⟨b10, b11⟩ := b1
      have HH' := Aside0.mk HH
      have HA' := Aside0.mk HA
      have HI' := Aside0.mk HI
      have HG' := Aside0.mk HG
      have HT' := Aside0.mk HT
      have HGS' := Aside0.mk HGS
      have HX2 := Aside0.mk hx2
      clear HH HA HI HG HT HGS HR
      have l1 : (i : Int) < n1 := by omega
      have l2 : (i : Int) < n2 := by omega
      have l0 : (i : Int) < n0 := by omega
      have HN50 := Aside0.mk h0
      clear h0 h1 h2 q1 q2 q3
      have hl0 := World.block_lt_of_cell? wr _ hx0
      have hl1 := World.block_lt_of_cell? wr _ hx1
      have ne1 : (x0.add i).block ≠ wr.heap.size := Nat.ne_of_lt hl0
      have ne2 : wr.heap.size ≠ (x0.add i).block := Nat.ne_of_gt hl0
      have ne3 : (x1.add i).block ≠ wr.heap.size := Nat.ne_of_lt hl1
      have ne4 : wr.heap.size ≠ (x1.add i).block := Nat.ne_of_gt hl1
      go_upto_region 9 with fail
      go_cut [11] (fun v11 wc => ∃ gn : Nat, v11 = .pointer (some ⟨gn, 0, none⟩) ∧ Aside0 (Heard w wc base c f l i ((gn, bx6 5 s y 0 0 0) :: (gs, .cells A 27 (0, 0)) :: G9) ∧ w.heap.size ≤ gn))
      case first =>
        go_region
        all_goals (go_wp2_with fail; go_meet)
        case rel => exact ⟨_, rfl, ⟨(HH'.out.alloc _).drew, HH'.out.below.size⟩⟩
      case rest =>
        obtain ⟨gn, rfl, HN⟩ := hcut
        clear hx0 hx1 hx2 hl0 hl1 ne1 ne2 ne3 ne4 HX2
        have HNN := Aside0.mk HN.out.1
        have HNL := Aside0.mk HN.out.2
        clear HN HH'
        have HO : bx6 5 s y 0 0 0 ≠ .cells A 27 (0, 0) := by simp
        have HOO := Aside0.mk HO
        have HSW : Aside0 ((Lit.int .i64 (s : Int)).wf = true) := ⟨(Lit.wf_int_iff _ _).2 (by rw [show IntKind.i64.min = -9223372036854775808 by decide, show IntKind.i64.max = 9223372036854775807 by decide]; omega)⟩
        have HYW : Aside0 ((Lit.int .i64 (y : Int)).wf = true) := ⟨(Lit.wf_int_iff _ _).2 (by rw [show IntKind.i64.min = -9223372036854775808 by decide, show IntKind.i64.max = 9223372036854775807 by decide]; omega)⟩
        clear HO
        obtain ⟨ff, hff⟩ : ∃ o, f s y = o := ⟨_, rfl⟩
        have HF := Aside0.mk hff
        clear hff
        obtain ⟨hn0, hn1, hn2, hn3, hn4, hn5, hnf⟩ := HNN.out.six (g := gn) List.mem_cons_self
        obtain ⟨hc0, hcf⟩ := HNN.out.nine (g := gs) (List.mem_cons_of_mem _ List.mem_cons_self) HA'.out hs3 hy3 HF.out
        cases ff
        case' some u =>
          replace hc0 : wc.cell? ⟨gs, s * 3 + y, none⟩ = some (.int .u8 u) := hc0
          have hu := HI'.out.vals _ _ _ HF.out
          have hu0 : (u == 0) = false := by rcases hu with rfl | rfl <;> rfl
          clear hu
          go_wp2_with fail
          go_quiet (fail)
          obtain ⟨wd, hwd⟩ : ∃ wd, wd = wc.drewN nq := ⟨_, rfl⟩
          rw [← hwd]
          have HD := Aside0.mk (HNN.out.of_drewN hwd)
          have HAA : Aside0 (SaidArr A (hearF f s y a2)) := ⟨by unfold hearF; rw [HF.out]; exact HA'.out⟩
          have HRG : Aside0 (RowG G9 w.heap.size u9 (hearL f l s y a2)) := ⟨by unfold hearL; rw [HF.out]; exact HG'.out⟩
          have HU : Aside0 (hearV f s y a2 = u ∧ hearF f s y a2 s y = some u) := ⟨by unfold hearV hearF; rw [HF.out]; exact ⟨rfl, HF.out⟩⟩
          have HTT := HT'
          clear hn0 hn1 hn2 hn3 hn4 hn5 hnf hc0 hcf HNN hwd HF HA' HG' HT' hu0
          clear wc
          go_upto_region 15 with fail
        case' none =>
          replace hc0 : wc.cell? ⟨gs, s * 3 + y, none⟩ = some (.int .u8 0) := hc0
          go_wp2_with fail
          go_quiet (fail)
          obtain ⟨wd, hwd⟩ : ∃ wd, wd = wc.drewN nq := ⟨_, rfl⟩
          rw [← hwd]
          have HD := Aside0.mk (HNN.out.of_drewN hwd)
          clear hn0 hn1 hn2 hn3 hn4 hn5 hnf hc0 hcf HNN hwd
          clear wc
          go_wp2_with fail
          refine still_tail_at 6 (by kernel_rfl) (by kernel_rfl) ?_
          intro X eX bX
          have HX := Aside0.mk (HD.out.still eX bX)
          clear eX bX HD
          clear wd
          obtain ⟨hn0, hn1, hn2, hn3, hn4, hn5, hnf⟩ := HX.out.six (g := gn) List.mem_cons_self
          obtain ⟨hc0, hcf⟩ := HX.out.nine (g := gs) (List.mem_cons_of_mem _ List.mem_cons_self) HA'.out hs3 hy3 HF.out
          simp only [List.take_succ_cons, List.take_zero, List.drop_succ_cons, List.drop_zero]
          repeat still_step
          refine wpStill_nil ?_
          go_upto_region 12 with fail
          obtain ⟨wd, hwd⟩ : ∃ Y, Y = X.setCell ⟨gs, s * 3 + y, none⟩ (.int .u8 3) := ⟨_, rfl⟩
          rw [← hwd]
          have HD : Aside0 (Heard w wd base c f l i ((gn, bx6 5 s y 0 0 0) :: (gs, .cells (A.setIfInBounds (s * 3 + y) (.int .u8 3)) 27 (0, 0)) :: G9)) := ⟨by rw [hwd]; exact HX.out.putA HGS'.out _ _ HOO.out HT'.out⟩
          have HA2 : Aside0 (SaidArr (A.setIfInBounds (s * 3 + y) (.int .u8 3)) (upd f s y 3)) := ⟨HA'.out.put hs3 hy3 3⟩
          clear hn0 hn1 hn2 hn3 hn4 hn5 hnf hc0 hcf hwd HX HA'
          clear X
          obtain ⟨x, e2, hx2⟩ := R2.out.at HD.out.below i (by omega)
          cases e2
          rw [H2.out] at hx2
          by_cases hv : a2 = 1
          case' neg =>
            have hv1 : (a2 == 1) = false := by simpa using hv
            have HAA : Aside0 (SaidArr (A.setIfInBounds (s * 3 + y) (.int .u8 3)) (hearF f s y a2)) := ⟨by unfold hearF; rw [HF.out]; dsimp only; rw [if_neg hv]; exact HA2.out⟩
            have HRG : Aside0 (RowG G9 w.heap.size u9 (hearL f l s y a2)) := ⟨by
              unfold hearL; rw [HF.out]; dsimp only; rw [if_neg hv]; exact HG'.out⟩
            have HU : Aside0 (hearV f s y a2 = 3 ∧ hearF f s y a2 s y = some 3) := ⟨by unfold hearV hearF; rw [HF.out]; dsimp only; rw [if_neg hv]; exact ⟨rfl, by simp [upd]⟩⟩
            have HTT := HT'
            obtain ⟨u, hu⟩ : ∃ u : Int, u = 3 := ⟨_, rfl⟩
            rw [← hu] at HU
            generalize A.setIfInBounds (s * 3 + y) (.int .u8 3) = A at *
            go_upto_region 15 with fail
            clear hv hv1 hu
          case' pos =>
            have hv1 : (a2 == 1) = true := by simpa using hv
            have HV1 := Aside0.mk hv
            clear hv
            go_wp2_with fail
            refine still_tail_at 6 (by kernel_rfl) (by kernel_rfl) ?_
            intro X eX bX
            have HX := Aside0.mk (HD.out.still eX bX)
            clear eX bX HD hx2
            clear wd
            obtain ⟨hn0, hn1, hn2, hn3, hn4, hn5, hnf⟩ := HX.out.six (g := gn) List.mem_cons_self
            obtain ⟨hc0, hcf⟩ := HX.out.nine (g := gs) (List.mem_cons_of_mem _ List.mem_cons_self) HA2.out hs3 hy3 (show upd f s y 3 s y = some 3 by simp [upd])
            replace hc0 : X.cell? ⟨gs, s * 3 + y, none⟩ = some (.int .u8 3) := hc0
            simp only [List.take_succ_cons, List.take_zero, List.drop_succ_cons, List.drop_zero]
            repeat still_step
            refine wpStill_nil ?_
            go_upto_region 14 with fail
            obtain ⟨we, hwe⟩ : ∃ Y, Y = X.setCell ⟨gs, s * 3 + y, none⟩ (.int .u8 1) := ⟨_, rfl⟩
            rw [← hwe]
            generalize A.setIfInBounds (s * 3 + y) (.int .u8 3) = A2 at *
            have HE : Aside0 (Heard w we base c f l i ((gn, bx6 5 s y 0 0 0) :: (gs, .cells (A2.setIfInBounds (s * 3 + y) (.int .u8 1)) 27 (0, 0)) :: G9)) := ⟨by rw [hwe]; exact HX.out.putA HGS'.out _ _ (by simp) HT'.out⟩
            have HA3 : Aside0 (SaidArr (A2.setIfInBounds (s * 3 + y) (.int .u8 1)) (upd (upd f s y 3) s y 1)) := ⟨HA2.out.put hs3 hy3 1⟩
            have HFU : Aside0 (upd (upd f s y 3) s y 1 = upd f s y 1) := ⟨by funext a b; simp only [upd]; split <;> rfl⟩
            clear hn0 hn1 hn2 hn3 hn4 hn5 hnf hc0 hcf hwe HX HA2
            clear X
            generalize A2.setIfInBounds (s * 3 + y) (.int .u8 1) = A at *
            have HEA := Aside0.mk (HE.out.alloc (.cells #[.int .i64 s, .int .i64 y] 32))
            have HOWN : Aside0 (World.ownsRow (we.alloc (.cells #[.int .i64 s, .int .i64 y] 32)) w.heap.size 32 2 u9 l.length (cellsOf l)) := ⟨HG'.out.own _ (fun p hp => HEA.out.blk p (by simp [hp]))⟩
            have hll : l.length ≤ i := by obtain ⟨S, h, _⟩ := HE.out.ex; exact h.small
            have HM1 : Aside0 (l.length + 1 ≤ maxLen) := ⟨by have := HN50.out; unfold maxLen; omega⟩
            have HM2 : Aside0 ((l.length + 1) * 16 ≤ 140737488355328) := ⟨by have := HN50.out; omega⟩
            have HM3 : Aside0 (w.heap.size ≤ (we.alloc (.cells #[.int .i64 s, .int .i64 y] 32)).heap.size) := ⟨HEA.out.below.size⟩
            clear hll
            obtain ⟨hn0, hn1, hn2, hn3, hn4, hn5, hnf⟩ := HE.out.six (g := gn) List.mem_cons_self
            obtain ⟨i0, hif, hz0, hz1, hz2⟩ := info_parts info32
            have HI1 := Aside0.mk hif
            have HI2 := Aside0.mk hz0
            have HI3 := Aside0.mk hz1
            have HI4 := Aside0.mk hz2
            clear hif hz0 hz1 hz2
            go_wp2_with (at_builtin; refine wpList_append_own_at _ rfl (.tmp 83) (.tmp 89) 28 rfl w.heap.size 32 i0 _ 2 16 Try.underlying28 HI1.out HI2.out HI3.out HI4.out rfl Nat.zero_lt_two u9 l.length (cellsOf l) rfl HOWN.out ⟨_, 0, none⟩ 1 1 [.int .i64 s, .int .i64 y] rfl rfl (fun j u hj => cell_two_new2 we (.int .i64 s) (.int .i64 y) 32 j u hj) (one2 s y) HM1.out HM2.out HM3.out ?_; intro v9 wd hrow1 hg1 _ hat1; have HRW := Aside0.mk hrow1; have HGR := Aside0.mk hg1; have HAT := Aside0.mk hat1; clear hrow1 hg1 hat1 hn0 hn1 hn2 hn3 hn4 hn5 hnf)
            obtain ⟨G9n, g1, g2, g3⟩ := HEA.out.grown (G' := [(gn, bx6 5 s y 0 0 0), (gs, .cells A 27 (0, 0))]) (l2 := l ++ [((s : Int), (y : Int))]) (HG'.out.mono (fun p hp => by simp [hp])) (Nat.le_refl _) ⟨HGR.out.os, HGR.out.tape, HGR.out.output, HGR.out.size, fun i hi hn => HGR.out.block i hi hn⟩ (by rw [cellsOf_snoc]; simpa using HRW.out) (fun i hi => by
              rcases HAT.out with e | e
              · exact .inl (hi.trans e)
              · rw [e] at hi; injection hi with hi; exact .inr (by omega)) (fun p hp => by
              simp only [List.mem_cons, List.not_mem_nil, or_false] at hp
              rcases hp with rfl | rfl
              · exact ⟨by simp, fun cur => by simp⟩
              · exact ⟨by simp, fun cur => by simp⟩)
            have HD := Aside0.mk g2
            have HTT := Aside0.mk g3
            have HAA : Aside0 (SaidArr A (hearF f s y a2)) := ⟨by unfold hearF; rw [HF.out]; dsimp only; rw [if_pos HV1.out, ← HFU.out]; exact HA3.out⟩
            have HRG : Aside0 (RowG G9n w.heap.size v9 (hearL f l s y a2)) := ⟨by unfold hearL; rw [HF.out]; dsimp only; rw [if_pos HV1.out]; exact g1⟩
            have HU : Aside0 (hearV f s y a2 = 1 ∧ hearF f s y a2 s y = some 1) := ⟨by unfold hearV hearF; rw [HF.out]; dsimp only; rw [if_pos HV1.out]; exact ⟨rfl, by simp [upd]⟩⟩
            obtain ⟨u, hu⟩ : ∃ u : Int, u = 1 := ⟨_, rfl⟩
            rw [← hu] at HU
            clear g1 g2 g3 HE HA3 HFU HEA HOWN HM1 HM2 HM3 HI1 HI2 HI3 HI4 HRW HGR HAT HV1 hv1 hu HG' HT'
            have HD : Aside0 (Heard w wd base c f l i ((gn, bx6 5 s y 0 0 0) :: (gs, .cells A 27 (0, 0)) :: G9n)) := HD
            clear G9
            obtain ⟨G9, hG9⟩ : ∃ G, G = G9n := ⟨_, rfl⟩
            subst hG9
        all_goals
          have HE1 := Aside0.mk HU.out.1
          have HU2 := HU.out.2
          have HI2 := HI'.out.hear (l := l) hsI hyI a2
          obtain ⟨fN, hfN⟩ : ∃ g, hearF f s y a2 = g := ⟨_, rfl⟩
          obtain ⟨lN, hlN⟩ : ∃ g, hearL f l s y a2 = g := ⟨_, rfl⟩
          rw [hfN] at HU2 HAA HI2
          rw [hlN] at HRG HI2
          have HE2 := Aside0.mk hfN
          have HE3 := Aside0.mk hlN
          have HUN := Aside0.mk HU2
          have HIN := Aside0.mk HI2
          have hu13 := HI2.vals _ _ _ HU2
          have HU3 : Aside0 (u ≠ 0) := ⟨by rcases hu13 with rfl | rfl <;> decide⟩
          clear hfN hlN HU2 HI2 hu13 HU HI' b2 b00 b01 b10 b11 hs hy
          obtain ⟨S2, HC, hS1, hS2⟩ := HD.out.ex
          obtain ⟨x, e2, hx2⟩ := R2.out.at HD.out.below i (by omega)
          cases e2
          rw [H2.out] at hx2
          have q := HD.out.blk (gn, bx6 5 s y 0 0 0) List.mem_cons_self
          replace q : wd.heap[gn]? = some (bx6 5 s y 0 0 0) := q
          have hxl := World.block_lt_of_cell? wd _ hx2
          have hgl := blk_lt q
          have ne1 : gn ≠ wd.heap.size := Nat.ne_of_lt hgl
          have ne2 : wd.heap.size ≠ gn := Nat.ne_of_gt hgl
          have ne3 : (x2.add i).block ≠ wd.heap.size := Nat.ne_of_lt hxl
          have ne4 : wd.heap.size ≠ (x2.add i).block := Nat.ne_of_gt hxl
          obtain ⟨hn0, hn1, hn2, hn3, hn4, hn5, hnf⟩ := cells6 q
          have HX2 := Aside0.mk hx2
          have Q2 := Aside0.mk q
          have NG : Aside0 (¬ S2 gn) := ⟨hS1 (gn, bx6 5 s y 0 0 0) List.mem_cons_self⟩
          have NX : Aside0 (¬ S2 (x2.add i).block) := ⟨fun h => by have := hS2 _ h; obtain ⟨x', e1, e2⟩ := R2.out.cell i (by omega); cases e1; have := World.block_lt_of_cell? w _ e2; omega⟩
          have NS2 : Aside0 (¬ S2 wd.heap.size) := ⟨fun h => by have := HC.hi _ h; omega⟩
          have HBW : Aside0 (base ≤ wd.drew.heap.size) := ⟨HD.out.hb⟩
          have HBX : Aside0 (base ≤ (wd.alloc z6).drew.heap.size) := ⟨Nat.le_trans HD.out.hb (by show wd.heap.size ≤ (wd.alloc z6).heap.size; simp)⟩
          have LN : Aside0 (i < 900) := ⟨by have := HN50.out; omega⟩
          have HS1 := Aside0.mk hS1
          have HS2 := Aside0.mk hS2
          clear q hS1 hS2
          go_upto_region 15 with fail
          go_cut [12, 13] (fun v12 v13 wc => ∃ g12 : Nat, v12 = .pointer (some ⟨g12, 0, none⟩) ∧ v13 = .bool true ∧ Aside0 (Heard w wc base c fN lN (i + 1) ((g12, bx6 5 s y 0 0 u) :: (gn, bx6 5 s y 0 0 0) :: (gs, .cells A 27 (0, 0)) :: G9)))
          case first =>
            go_region_held3 (fun W => W.cell? ⟨gn, 0, none⟩ = some (.int .u8 5) ∧ W.cell? ⟨gn, 1, none⟩ = some (.int .i64 s) ∧ W.cell? ⟨gn, 2, none⟩ = some (.int .i64 y) ∧ W.cell? ⟨gn, 3, none⟩ = some (.int .i64 0) ∧ W.cell? ⟨gn, 4, none⟩ = some (.int .i64 0) ∧ W.cell? ⟨gn, 5, none⟩ = some (.int .u8 0) ∧ W.cell? (x2.add i) = some (.int .u8 a2)) (go_keep) (first
              | ((with_reducible refine (hear_as s y 0 0 a2 wd.drew HSW.out HYW.out HC.drew HBW.out LN.out u fN lN HE1.out HE2.out HE3.out).mono ?_); rintro e w3 ⟨rfl, S3, C3, F3, hS3⟩; obtain ⟨hm0, hm1, hm2, hm3, hm4, hm5, hmf⟩ := cells6 (F3.at (show (World.heap wd.drew)[gn]? = some (bx6 5 s y 0 0 0) from Q2.out) NG.out); have hmx := (World.cell?_of_block (F3.block (x2.add i).block (World.block_lt_of_cell? wd.drew _ (show wd.drew.cell? (x2.add i) = some (.int .u8 a2) from HX2.out)) NX.out)).trans (show wd.drew.cell? (x2.add i) = some (.int .u8 a2) from HX2.out))
              | ((with_reducible refine (hear_as s y 0 0 a2 (wd.alloc z6).drew HSW.out HYW.out (HC.alloc z6).drew HBX.out LN.out u fN lN HE1.out HE2.out HE3.out).mono ?_); rintro e w3 ⟨rfl, S3, C3, F3, hS3⟩; obtain ⟨hm0, hm1, hm2, hm3, hm4, hm5, hmf⟩ := cells6 (F3.at (show (World.heap (wd.alloc z6).drew)[gn]? = some (bx6 5 s y 0 0 0) from blk_alloc Q2.out z6) NG.out); have hmx := (World.cell?_of_block (F3.block (x2.add i).block (World.block_lt_of_cell? (wd.alloc z6).drew _ (show (wd.alloc z6).drew.cell? (x2.add i) = some (.int .u8 a2) from (World.cell?_alloc_lt _ _ _ (World.block_lt_of_cell? _ _ HX2.out)).trans HX2.out)) NX.out)).trans (show (wd.alloc z6).drew.cell? (x2.add i) = some (.int .u8 a2) from (World.cell?_alloc_lt _ _ _ (World.block_lt_of_cell? _ _ HX2.out)).trans HX2.out); have z3 := F3.at (show (wd.alloc z6).drew.heap[wd.heap.size]? = some z6 from blk_new wd z6) NS2.out; obtain ⟨zn0, zn1, zn2, zn3, zn4, zn5, znf⟩ := cells6 z3))
            all_goals (go_wp2_with fail; go_meet)
            case rel => exact ⟨_, rfl, rfl, ⟨heard_a C3 F3 hS3 HD.out.below HS1.out HD.out.blk HS2.out HD.out.hb⟩⟩
            case rel => exact ⟨_, rfl, rfl, ⟨heard_b C3 F3 hS3 HD.out.below HS1.out NS2.out HD.out.blk HS2.out HD.out.hb⟩⟩
          case rest =>
            obtain ⟨g12, rfl, rfl, HK⟩ := hcut
            clear hn0 hn1 hn2 hn3 hn4 hn5 hnf hx2 HX2 Q2 NG NX NS2 HBW HBX HE1 HE2 HE3 LN HS1 HS2 ne1 ne2 ne3 ne4 hxl hgl HC HD
            clear S2
            go_wp2_with fail
            refine still_tail_at 8 (by kernel_rfl) (by kernel_rfl) ?_
            intro X eX bX
            have HX := Aside0.mk (HK.out.still eX bX)
            clear eX bX HK
            obtain ⟨hn0, hn1, hn2, hn3, hn4, hn5, hnf⟩ := HX.out.six (g := gn) (List.mem_cons_of_mem _ List.mem_cons_self)
            obtain ⟨hc0, hcf⟩ := HX.out.nine (g := gs) (List.mem_cons_of_mem _ (List.mem_cons_of_mem _ List.mem_cons_self)) HAA.out hs3 hy3 HUN.out
            replace hc0 : X.cell? ⟨gs, s * 3 + y, none⟩ = some (.int .u8 u) := hc0
            simp only [List.take_succ_cons, List.take_zero, List.drop_succ_cons, List.drop_zero]
            repeat still_step
            refine wpStill_nil ?_
            go_upto_region 17 with fail
            obtain ⟨wz, hwz⟩ : ∃ Y, Y = X.setCell ⟨gn, 5, none⟩ (.int .u8 u) := ⟨_, rfl⟩
            rw [← hwz]
            have HZ : Aside0 (Heard w wz base c fN lN (i + 1) ((g12, bx6 5 s y 0 0 u) :: (gn, bx6 5 s y 0 0 u) :: (gs, .cells A 27 (0, 0)) :: G9)) := ⟨by
              rw [hwz]
              refine HX.out.put (g := gn) (A := #[.int .u8 5, .int .i64 s, .int .i64 y, .int .i64 0, .int .i64 0, .int .u8 0]) (t := 30) (by simp) HNL.out 5 (.int .u8 u) rfl (fun p hp => ?_)
              simp only [List.mem_cons] at hp
              rcases hp with rfl | rfl | rfl | hp
              · exact .inr ⟨by simp, HX.out.apart (p := (g12, bx6 5 s y 0 0 u)) (q := (gn, bx6 5 s y 0 0 0)) (by simp) (by simp) (by simp [HU3.out])⟩
              · exact .inl rfl
              · exact .inr ⟨by simp, HX.out.apart (p := (gs, .cells A 27 (0, 0))) (q := (gn, bx6 5 s y 0 0 0)) (by simp) (by simp) (by simp)⟩
              · exact .inr ⟨by simp [hp], HX.out.apart (q := (gn, bx6 5 s y 0 0 0)) (by simp [hp]) (by simp) (by obtain ⟨cur, e⟩ := HTT.out p hp; rw [e]; simp)⟩⟩
            clear hn0 hn1 hn2 hn3 hn4 hn5 hnf hc0 hcf hwz HX
            clear X
            obtain ⟨hn0, hn1, hn2, hn3, hn4, hn5, hnf⟩ := HZ.out.six (g := gn) (List.mem_cons_of_mem _ List.mem_cons_self)
            obtain ⟨hm0, hm1, hm2, hm3, hm4, hm5, hmf⟩ := HZ.out.six (g := g12) List.mem_cons_self
            have hi50 : (i : Int) < 50 := by have := HN50.out; omega
            go_wp2_with fail
            go_roundg (n0 - (i + 1))
            case measure => have := hk.out; omega
            case rel => exact ⟨i + 1, by go_num, by omega, ⟨rfl⟩, ⟨⟨fN, lN, A, G9, HZ.out.sub (fun p hp => List.mem_cons_of_mem _ (List.mem_cons_of_mem _ hp)), HAA.out, HIN.out, HRG.out, HTT.out, HGS'.out⟩⟩⟩
    · obtain rfl : i = n0 := by omega
      have hown := HG.own wr (fun p hp => HH.blk p (List.mem_cons_of_mem _ hp))
      obtain ⟨A9, cap9, rfl⟩ := row_form hown
      have HH' := Aside0.mk HH
      have HI' := Aside0.mk HI
      have HG' := Aside0.mk HG
      have LN : Aside0 (i < 1000) := ⟨by omega⟩
      have hll : l.length ≤ i := by obtain ⟨S, h, _⟩ := HH.ex; exact h.small
      have hl50 : (l.length : Int) ≤ 50 := by omega
      clear HH HA HI HG HT HGS HR hown hll h0 h1 h2 q1 q2 q3
      obtain ⟨S2, HC, hS1, hS2⟩ := HH'.out.ex
      go_wp2_with fail
      go_at_call 9
      refine (trips_cart _ HC LN.out).mono ?_
      rintro e w4 ⟨v14, rfl, hrow, hB⟩
      obtain ⟨A4, cap4, rfl⟩ := row_form hrow
      obtain ⟨G4, k1, k2, k3, k4⟩ := rowG_of (l := l) hrow
      have HK : Aside0 (Heard w w4 base c f l i (G4 ++ G9)) := ⟨HH'.out.kept (S' := fun _ => False) (Fr.of_below hB _) (fun _ h => h.elim) (fun _ h => h.elim) (fun p hp => by
        rcases List.mem_append.1 hp with hp | hp
        · exact ⟨k2 p hp, .inr ((row_ge hrow _ (k3 p hp)))⟩
        · exact ⟨blk_below (HH'.out.blk p (List.mem_cons_of_mem _ hp)) hB, .inl ⟨_, List.mem_cons_of_mem _ hp⟩⟩)⟩
      have HG4 := Aside0.mk (k1.mono (G' := G4 ++ G9) (fun p hp => List.mem_append_left _ hp))
      have HG9 := Aside0.mk (HG'.out.mono (G' := G4 ++ G9) (fun p hp => List.mem_append_right _ hp))
      obtain ⟨b4, hb4⟩ : ∃ b, b = wr.heap.size := ⟨_, rfl⟩
      rw [← hb4] at HG4
      clear k1 k2 k3 k4 hrow hB HC hS1 hS2 HG' HH' HR0 hb4
      clear wr S2
      go_wp2_with fail
      go_loopg [15] l.length (fun kq v15 wr => ∃ j : Nat, v15 = .int .i64 j ∧ j ≤ l.length ∧ Aside0 (kq = l.length - j) ∧ Aside0 (Heard w wr base c f l i (G4 ++ G9)))
      case atStart => exact ⟨0, rfl, Nat.zero_le _, ⟨rfl⟩, HK⟩
      case round =>
        obtain ⟨j, rfl, hj, hkj, HJ⟩ := hrel
        obtain ⟨S2, HC, hS1, hS2⟩ := HJ.out.ex
        by_cases hjl : j < l.length
        · obtain ⟨ga, ca, ea, cella⟩ := row_cells (HG4.out.own wr HJ.out.blk) (by omega)
          obtain ⟨gb, cb, eb, cellb⟩ := row_cells (HG9.out.own wr HJ.out.blk) (by omega)
          injection ea with ea1 _ ea2
          injection eb with eb1 _ eb2
          subst ea1 ea2 eb1 eb2
          obtain ⟨q0, q1⟩ := cellsOf_at l j hjl
          have a0 := cella (j * 2) _ q0
          have a1 := cella (j * 2 + 1) _ q1
          have c0 := cellb (j * 2) _ q0
          have c1 := cellb (j * 2 + 1) _ q1
          rw [add_plain] at a0 a1 c0 c1
          have hmem : (l[j].1, l[j].2) ∈ l := List.getElem_mem hjl
          have hcnt : Aside0 (cnt l l[j].1 l[j].2 = 1) := ⟨cnt_once HI'.out.nodup hmem⟩
          obtain ⟨p1, hp1⟩ : ∃ p1, p1 = l[j].1 := ⟨_, rfl⟩
          obtain ⟨p2, hp2⟩ : ∃ p2, p2 = l[j].2 := ⟨_, rfl⟩
          rw [← hp1, ← hp2] at hcnt
          rw [← hp1] at a0 c0
          rw [← hp2] at a1 c1
          have A0' := Aside0.mk a0
          have A1' := Aside0.mk a1
          have C0' := Aside0.mk c0
          have C1' := Aside0.mk c1
          have hla := World.block_lt_of_cell? wr _ a0
          have hlb := World.block_lt_of_cell? wr _ c0
          have hjl2 : (j : Int) < l.length := by omega
          have HCA := Aside0.mk HC.drew
          clear cella cellb q0 q1 hmem hp1 hp2
          go_upto_region 25 with fail
          go_region_held3 (fun W => W.cell? ⟨ga, j * 2, none⟩ = some (.int .i64 p1) ∧ W.cell? ⟨ga, j * 2 + 1, none⟩ = some (.int .i64 p2) ∧ W.cell? ⟨gb, j * 2, none⟩ = some (.int .i64 p1) ∧ W.cell? ⟨gb, j * 2 + 1, none⟩ = some (.int .i64 p2)) (go_keep) (first
            | ((with_reducible refine (sent_cart p1 p2 wr.drew HCA.out LN.out).mono ?_); rintro e w5 ⟨rfl, B5⟩; rw [hcnt.out]; have m1 := (B5.cell (p := ⟨ga, j * 2, none⟩) hla).trans A0'.out; have m2 := (B5.cell (p := ⟨ga, j * 2 + 1, none⟩) hla).trans A1'.out; have m3 := (B5.cell (p := ⟨gb, j * 2, none⟩) hlb).trans C0'.out; have m4 := (B5.cell (p := ⟨gb, j * 2 + 1, none⟩) hlb).trans C1'.out))
          all_goals
            have HW5 := Aside0.mk (HJ.out.drew.belowed B5)
            clear m1 m2 m3 m4 a0 a1 c0 c1 hla hlb B5 HC hS1 hS2 HCA A0' A1' C0' C1'
            go_wp2_with fail
            go_roundg (l.length - (j + 1))
            case measure => have := hkj.out; omega
            case rel => exact ⟨j + 1, by go_num, by omega, ⟨rfl⟩, HW5⟩
        · obtain rfl : j = l.length := by omega
          have hc7 : Aside0 (cnt l 7 7 = 0) := ⟨cnt_none (fun h => by have := HI'.out.few _ h; omega)⟩
          go_wp2_with fail
          go_at_call 10
          refine (sent_cart 7 7 _ HC LN.out).mono ?_
          rintro e w5 ⟨rfl, B5⟩
          rw [hc7.out]
          have HW5 := Aside0.mk (HJ.out.belowed B5)
          clear B5 HC hS1 hS2
          go_wp2
          go_ret
          exact ⟨rfl, HW5.out.below⟩
theorem plays_all (A0 A1 A2 : Option Addr) (n0 n1 n2 c0 c1 c2 : Nat) (z0 z1 z2 : List Int) (w : World) (r0 : RowIn .u8 w A0 n0 z0) (r1 : RowIn .u8 w A1 n1 z1) (r2 : RowIn .u8 w A2 n2 z2) :
    Calls Try.prog 3 #[.slice A0 n0 c0, .slice A1 n1 c1, .slice A2 n2 c2] w fun e w' => e = .returned (.bool true) ∧ Below w.heap.size w w' := by
  by_cases h : 50 < n0 ∨ n1 < n0 ∨ n2 < n0
  · exact plays_not A0 A1 A2 n0 n1 n2 c0 c1 c2 w h
  · exact plays_any A0 A1 A2 n0 n1 n2 c0 c1 c2 z0 z1 z2 w (by omega) (by omega) (by omega) r0 r1 r2
end Go.Proofs.Ytmenfodphooacaa
