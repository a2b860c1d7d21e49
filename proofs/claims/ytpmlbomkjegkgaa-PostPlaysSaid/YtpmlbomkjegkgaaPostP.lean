/- PostPlays: letters that come, don't, or come twice, in any order. -/
import Derived.Test.YtpmlbomkjegkgaaPostO
import Derived.Test.YtpmlbomkjegkgaaPostF
import Derived.Test.YtpmlbomkjegkgaaPostQ
import Derived.DataShut
namespace Go.Proofs.Ytpmlbomkjegkgaa
open Go.RowKit Go.Proofs.YtpmlbomkjegkgaaW.PrintWords
set_option linter.unusedVariables false
theorem RowIn.at {k : IntKind} {w : World} {a : Option Addr} {len : Nat} {zs : List Int} (h : RowIn k w a len zs) {w' : World} (hb : Below w.heap.size w w') (i : Nat) (hi : i < len) : ∃ x, a = some x ∧ w'.cell? (x.add i) = some (.int k (zs.getD i 0)) := by
  obtain ⟨x, h1, h2⟩ := h.cell i hi
  refine ⟨x, h1, ?_⟩
  rw [hb.cell (World.block_lt_of_cell? w _ h2)]
  exact h2
theorem RowIn.wf_at {k : IntKind} {w : World} {a : Option Addr} {len : Nat} {zs : List Int} (h : RowIn k w a len zs) (i : Nat) (hi : i < len) : (Lit.int k (zs.getD i 0)).wf = true :=
  h.wf _ (by rw [List.getD_eq_getElem?_getD, List.getElem?_eq_getElem (by rw [h.long]; exact hi)]; exact List.getElem_mem _)
/-- The head of a round. -/
structure Round (w0 w : World) (c i : Nat) (v6 : Value) : Prop where
  ex : ∃ M, Both w0 w c v6 M M ∧ (∀ p ∈ M, p.2.length = 1) ∧ M.length ≤ i
set_option maxRecDepth 100000 in
set_option maxHeartbeats 4000000 in
theorem plays_not (A0 A1 : Option Addr) (n0 n1 c0 c1 : Nat) (w : World) (h : 80 < n0 ∨ n1 < n0) :
    Calls Try.prog 4 #[.slice A0 n0 c0, .slice A1 n1 c1] w fun e w' => e = .returned (.bool true) ∧ Below w.heap.size w w' := by
  rcases (show 80 < n0 ∨ (n0 ≤ 80 ∧ n1 < n0) by omega) with h | ⟨h1, h⟩
  · go_enter Try.func4, Try.ntmps4
    go_wp2_with fail
    go_at_call 6
    refine (awake_any _).mono ?_
    rintro e w1 ⟨rfl, hB1⟩
    have HB1 := Aside0.mk hB1
    clear hB1
    go_wp2_with fail
    go_at_call 6
    refine (awake_any _).mono ?_
    rintro e w2 ⟨rfl, hB2⟩
    have HB2 := Aside0.mk hB2
    clear hB2
    go_wp2
    go_ret
    exact ⟨rfl, HB1.out.trans (HB2.out.mono HB1.out.size)⟩
  · have q1 : decide ((80 : Int) < n0) = false := by simp; omega
    go_enter Try.func4, Try.ntmps4
    go_wp2_with fail
    go_at_call 6
    refine (awake_any _).mono ?_
    rintro e w1 ⟨rfl, hB1⟩
    have HB1 := Aside0.mk hB1
    clear hB1
    go_wp2_with fail
    go_at_call 6
    refine (awake_any _).mono ?_
    rintro e w2 ⟨rfl, hB2⟩
    have HB2 := Aside0.mk hB2
    clear hB2
    go_wp2
    go_ret
    exact ⟨rfl, HB1.out.trans (HB2.out.mono HB1.out.size)⟩
set_option maxRecDepth 100000 in
set_option maxHeartbeats 8000000 in
theorem plays_any (A0 A1 : Option Addr) (n0 n1 c0 c1 : Nat) (z0 z1 : List Int) (w : World) (h0 : n0 ≤ 80) (h1 : n0 ≤ n1) (r0 : RowIn .u8 w A0 n0 z0) (r1 : RowIn .i64 w A1 n1 z1) :
    Calls Try.prog 4 #[.slice A0 n0 c0, .slice A1 n1 c1] w fun e w' => e = .returned (.bool true) ∧ Below w.heap.size w w' := by
  have R0 := Aside0.mk r0
  have R1 := Aside0.mk r1
  clear r0 r1
  have q1 : decide ((80 : Int) < n0) = false := by simp; omega
  have q2 : decide (n1 < n0) = false := by simp; omega
  go_enter Try.func4, Try.ntmps4
  go_wp2_with fail
  go_at_call 6
  refine (awake_any _).mono ?_
  rintro e w1 ⟨rfl, hB1⟩
  have HR0 : Aside0 (Round w (w1.alloc (.cells #[.slice none 0 0] 27)) w1.heap.size 0 (.slice none 0 0)) := ⟨⟨[], ⟨⟨.slice none 0 0, [], [], new_post (blk_new _ _) (Nat.le_refl _), rowP_nil _ _ _ _, by simp, by simp [Value.ownBlock], rfl, rfl⟩, below_alloc hB1 _, hB1.size⟩, by simp, by simp⟩⟩
  have HN80 := Aside0.mk h0
  have HN1 := Aside0.mk h1
  clear hB1
  go_wp2_with fail
  obtain ⟨c, hc⟩ : ∃ c, c = w1.heap.size := ⟨_, rfl⟩
  rw [← hc] at HR0 ⊢
  clear hc h0 h1 q1 q2
  go_loopg [6, 7] n0 (fun kq v6 v7 wr => ∃ i : Nat, v7 = .int .i64 i ∧ i ≤ n0 ∧ Aside0 (kq = n0 - i) ∧ Aside0 (Round w wr c i v6))
  case atStart => exact ⟨0, rfl, Nat.zero_le _, ⟨rfl⟩, HR0⟩
  case round =>
    obtain ⟨i, rfl, hi, hk, HR⟩ := hrel
    obtain ⟨M, HB, HO, HM⟩ := HR.out.ex
    by_cases hlt : i < n0
    · obtain ⟨x0, e0, hx0⟩ := R0.out.at HB.below i hlt
      obtain ⟨x1, e1, hx1⟩ := R1.out.at HB.below i (by have := HN1.out; omega)
      cases e0
      cases e1
      have b0 := (Lit.wf_int_iff _ _).1 (R0.out.wf_at i hlt)
      rw [show IntKind.u8.min = 0 by decide, show IntKind.u8.max = 255 by decide] at b0
      obtain ⟨b00, b01⟩ := b0
      obtain ⟨K, hK⟩ : ∃ K, z0.getD i 0 = K := ⟨_, rfl⟩
      obtain ⟨pl, hpl⟩ : ∃ K, z1.getD i 0 = K := ⟨_, rfl⟩
      rw [hK] at hx0 b00 b01
      rw [hpl] at hx1
      have HK := Aside0.mk hK
      have HPL := Aside0.mk hpl
      have l1 : (i : Int) < n1 := by have := HN1.out; omega
      have l0 : (i : Int) < n0 := by omega
      have hi80 : (i : Int) < 80 := by have := HN80.out; omega
      obtain ⟨lv, L, L2, k1, k2, k3, k4, k5, k6⟩ := HB.ex
      obtain ⟨A6, cap6, rfl⟩ := k2.form
      have hlen := len_bare k6
      rw [hlen] at HB k2 ⊢
      have hM80 : (M.length : Int) < 80 := by have := HN80.out; omega
      have HB' := Aside0.mk HB
      have HO' := Aside0.mk HO
      have HM' := Aside0.mk HM
      have K2 := Aside0.mk k2
      have K3 := Aside0.mk k3
      have K6 := Aside0.mk k6
      have HLEN := Aside0.mk hlen
      clear HB HO HM k1 k2 k3 k4 k5 k6 hK hpl hlen HR
      obtain ⟨r, hr⟩ : ∃ r, K % 5 = r := ⟨_, rfl⟩
      have hr5 : r = 0 ∨ r = 1 ∨ r = 2 ∨ r = 3 ∨ r = 4 := by omega
      obtain ⟨k, hkp⟩ : ∃ k, k = plc pl M.length := ⟨_, rfl⟩
      have HKP := Aside0.mk hkp
      clear hkp
      by_cases hz : M.length = 0
      · have hz0 : ¬ (0 : Int) < M.length := by omega
        have HZ := Aside0.mk hz
        clear hz
        rcases hr5 with rfl | rfl | rfl | rfl | rfl
        · --send
          go_wp2_with fail
          go_at_call 7
          have HB1 := Aside0.mk (HB'.out.belowed (below_alloc (Below.refl _ _) (.cells #[.int .u8 i] 5)))
          have hM512 : M.length < 512 := by omega
          have HCL : Aside0 (∀ j u, (([(i : Int)]).map (Value.int .u8))[j]? = some u → (wr.alloc (.cells #[.int .u8 i] 5)).cell? ((⟨wr.heap.size, 0, none⟩ : Addr).add j) = some u) := ⟨fun j u hj => cell_one_new wr (.int .u8 i) 5 j u hj⟩
          refine (send_both HB1.out hM512 K 1 1 [(i : Int)] ⟨wr.heap.size, 0, none⟩ rfl (by decide) HCL.out).mono ?_
          rintro e w5 ⟨rfl, hB5⟩
          have HB5 := Aside0.mk hB5
          clear hB5 hx0 hx1
          obtain ⟨x, e0, hx0⟩ := R0.out.at HB5.out.below i hlt
          cases e0
          rw [HK.out] at hx0
          have hxl := World.block_lt_of_cell? w5 _ hx0
          obtain ⟨lv5, L5, L25, k1, k2, k3, k4, k5, k6⟩ := HB5.out.ex
          have hlen5 := len_bare k6
          rw [hlen5] at k2
          have HW : Aside0 (RowP ((w5.alloc (.cells #[.int .u8 i] 5)).alloc (.cells #[.int .u8 K, .slice (some ⟨w5.heap.size, 0, none⟩) 1 1] 32)) w.heap.size 32 2 (.slice A6 M.length cap6) M.length (flat L25)) := ⟨k2.of (fun g hg => by
            have := (k2.lt g hg).1
            rw [Below.heap_alloc (w5.alloc _) _ g (by simp; omega), Below.heap_alloc w5 _ g this])⟩
          have HM1 : Aside0 (M.length + 1 ≤ maxLen) := ⟨by unfold maxLen; omega⟩
          have HM2 : Aside0 ((M.length + 1) * 32 ≤ 140737488355328) := ⟨by omega⟩
          have HM3 : Aside0 (w.heap.size ≤ ((w5.alloc (.cells #[.int .u8 i] 5)).alloc (.cells #[.int .u8 K, .slice (some ⟨w5.heap.size, 0, none⟩) 1 1] 32)).heap.size) := ⟨by have := HB5.out.below.size; simp; omega⟩
          have HC2 : Aside0 (∀ j u, [Value.int .u8 K, .slice (some ⟨w5.heap.size, 0, none⟩) 1 1][j]? = some u → ((w5.alloc (.cells #[.int .u8 i] 5)).alloc (.cells #[.int .u8 K, .slice (some ⟨w5.heap.size, 0, none⟩) 1 1] 32)).cell? ((⟨w5.heap.size + 1, 0, none⟩ : Addr).add j) = some u) := ⟨fun j u hj => by
            have h := cell_two_new2 (w5.alloc (.cells #[.int .u8 i] 5)) (.int .u8 K) (.slice (some ⟨w5.heap.size, 0, none⟩) 1 1) 32 j u hj
            rwa [World.size_alloc] at h⟩
          have KK3 := Aside0.mk k3
          have KK6 := Aside0.mk k6
          have HL5 := Aside0.mk hlen5
          clear k1 k2 k3 k4 k5 k6 hlen5 hM512
          obtain ⟨i0, hif, hz0_, hz1_, hz2_⟩ := info_parts info32
          have HI1 := Aside0.mk hif
          have HI2 := Aside0.mk hz0_
          have HI3 := Aside0.mk hz1_
          have HI4 := Aside0.mk hz2_
          clear hif hz0_ hz1_ hz2_
          go_wp2_with (at_builtin; refine wpList_append_p _ rfl (.tmp 138) (.tmp 147) 25 rfl w.heap.size 32 i0 _ 2 32 Try.underlying25 HI1.out HI2.out HI3.out HI4.out rfl Nat.zero_lt_two (.slice A6 M.length cap6) M.length (flat L25) rfl HW.out ⟨w5.heap.size + 1, 0, none⟩ 1 1 [.int .u8 K, .slice (some ⟨w5.heap.size, 0, none⟩) 1 1] rfl rfl HC2.out (one2 _ _ _ _) HM1.out HM2.out HM3.out ?_; intro v9 w9 hrow9 hfr9 hat9; obtain ⟨A9, cap9, rfl⟩ := hrow9.form; have HRW := Aside0.mk hrow9; have HFR := Aside0.mk hfr9; have HAT := Aside0.mk hat9; clear hrow9 hfr9 hat9 hx0 hxl)
          have HB9 : Aside0 (Both w w9 c (.slice A9 (M.length + 1) cap9) (M ++ [(K, [(i : Int)])]) (M ++ [(K, [(i : Int)])])) := ⟨by
            have HB6 := (HB5.out.belowed (below_alloc (Below.refl _ _) (.cells #[.int .u8 i] 5))).belowed (below_alloc (Below.refl _ _) (.cells #[.int .u8 K, .slice (some ⟨w5.heap.size, 0, none⟩) 1 1] 32))
            have hnew : RowP ((w5.alloc (.cells #[.int .u8 i] 5)).alloc (.cells #[.int .u8 K, .slice (some ⟨w5.heap.size, 0, none⟩) 1 1] 32)) w.heap.size 5 1 (.slice (some ⟨w5.heap.size, 0, none⟩) 1 1) 1 [.int .u8 i] := ⟨rfl, .inr ⟨w5.heap.size, 1, #[.int .u8 i], rfl, HB5.out.below.size, blk_alloc (blk_new _ _) _, Nat.le_refl _, by decide, by simp, rfl⟩⟩
            have := HB6.row (v6' := .slice A9 (M.length + 1) cap9) (L2' := L25 ++ [(K, .slice (some ⟨w5.heap.size, 0, none⟩) 1 1, [(i : Int)])]) HFR.out (fun i hi => .inl hi) (by
              rw [flat_app, List.length_append, HL5.out]; exact HRW.out) (fun p hp => by
              rcases List.mem_append.1 hp with hp | hp
              · exact (KK3.out p hp).of (fun g hg => by
                  have := ((KK3.out p hp).lt g hg).1
                  rw [Below.heap_alloc (w5.alloc _) _ g (by simp; omega), Below.heap_alloc w5 _ g this])
              · obtain rfl := List.mem_singleton.1 hp
                exact hnew) HAT.out
            rw [List.map_append, KK6.out] at this
            exact this⟩
          have HLN := Aside0.mk (len_both HB9.out)
          have hM81 : (M.length : Int) + 1 < 100 := by omega
          have hLen : ((M ++ [(K, [(i : Int)])]).length : Int) = (M.length : Int) + 1 := by simp
          rw [hLen] at HLN
          clear HB1 HCL HB5 HW HM1 HM2 HM3 HC2 KK3 KK6 HL5 HI1 HI2 HI3 HI4 HRW HFR HAT hLen HB' K2 K3
          go_wp2_with fail
          go_at_call 9
          refine HLN.out.mono ?_
          rintro e w10 ⟨rfl, rfl⟩
          go_wp2_with fail
          go_roundg (n0 - (i + 1))
          case measure => have := hk.out; omega
          case rel => exact ⟨i + 1, by go_num, by omega, ⟨rfl⟩, ⟨⟨_, HB9.out, fun p hp => by
            rcases List.mem_append.1 hp with hp | hp
            · exact HO'.out p hp
            · obtain rfl := List.mem_singleton.1 hp; rfl, by have := HM'.out; simp; omega⟩⟩⟩
        · --send
          go_wp2_with fail
          go_at_call 7
          have HB1 := Aside0.mk (HB'.out.belowed (below_alloc (Below.refl _ _) (.cells #[.int .u8 i] 5)))
          have hM512 : M.length < 512 := by omega
          have HCL : Aside0 (∀ j u, (([(i : Int)]).map (Value.int .u8))[j]? = some u → (wr.alloc (.cells #[.int .u8 i] 5)).cell? ((⟨wr.heap.size, 0, none⟩ : Addr).add j) = some u) := ⟨fun j u hj => cell_one_new wr (.int .u8 i) 5 j u hj⟩
          refine (send_both HB1.out hM512 K 1 1 [(i : Int)] ⟨wr.heap.size, 0, none⟩ rfl (by decide) HCL.out).mono ?_
          rintro e w5 ⟨rfl, hB5⟩
          have HB5 := Aside0.mk hB5
          clear hB5 hx0 hx1
          obtain ⟨x, e0, hx0⟩ := R0.out.at HB5.out.below i hlt
          cases e0
          rw [HK.out] at hx0
          have hxl := World.block_lt_of_cell? w5 _ hx0
          obtain ⟨lv5, L5, L25, k1, k2, k3, k4, k5, k6⟩ := HB5.out.ex
          have hlen5 := len_bare k6
          rw [hlen5] at k2
          have HW : Aside0 (RowP ((w5.alloc (.cells #[.int .u8 i] 5)).alloc (.cells #[.int .u8 K, .slice (some ⟨w5.heap.size, 0, none⟩) 1 1] 32)) w.heap.size 32 2 (.slice A6 M.length cap6) M.length (flat L25)) := ⟨k2.of (fun g hg => by
            have := (k2.lt g hg).1
            rw [Below.heap_alloc (w5.alloc _) _ g (by simp; omega), Below.heap_alloc w5 _ g this])⟩
          have HM1 : Aside0 (M.length + 1 ≤ maxLen) := ⟨by unfold maxLen; omega⟩
          have HM2 : Aside0 ((M.length + 1) * 32 ≤ 140737488355328) := ⟨by omega⟩
          have HM3 : Aside0 (w.heap.size ≤ ((w5.alloc (.cells #[.int .u8 i] 5)).alloc (.cells #[.int .u8 K, .slice (some ⟨w5.heap.size, 0, none⟩) 1 1] 32)).heap.size) := ⟨by have := HB5.out.below.size; simp; omega⟩
          have HC2 : Aside0 (∀ j u, [Value.int .u8 K, .slice (some ⟨w5.heap.size, 0, none⟩) 1 1][j]? = some u → ((w5.alloc (.cells #[.int .u8 i] 5)).alloc (.cells #[.int .u8 K, .slice (some ⟨w5.heap.size, 0, none⟩) 1 1] 32)).cell? ((⟨w5.heap.size + 1, 0, none⟩ : Addr).add j) = some u) := ⟨fun j u hj => by
            have h := cell_two_new2 (w5.alloc (.cells #[.int .u8 i] 5)) (.int .u8 K) (.slice (some ⟨w5.heap.size, 0, none⟩) 1 1) 32 j u hj
            rwa [World.size_alloc] at h⟩
          have KK3 := Aside0.mk k3
          have KK6 := Aside0.mk k6
          have HL5 := Aside0.mk hlen5
          clear k1 k2 k3 k4 k5 k6 hlen5 hM512
          obtain ⟨i0, hif, hz0_, hz1_, hz2_⟩ := info_parts info32
          have HI1 := Aside0.mk hif
          have HI2 := Aside0.mk hz0_
          have HI3 := Aside0.mk hz1_
          have HI4 := Aside0.mk hz2_
          clear hif hz0_ hz1_ hz2_
          go_wp2_with (at_builtin; refine wpList_append_p _ rfl (.tmp 138) (.tmp 147) 25 rfl w.heap.size 32 i0 _ 2 32 Try.underlying25 HI1.out HI2.out HI3.out HI4.out rfl Nat.zero_lt_two (.slice A6 M.length cap6) M.length (flat L25) rfl HW.out ⟨w5.heap.size + 1, 0, none⟩ 1 1 [.int .u8 K, .slice (some ⟨w5.heap.size, 0, none⟩) 1 1] rfl rfl HC2.out (one2 _ _ _ _) HM1.out HM2.out HM3.out ?_; intro v9 w9 hrow9 hfr9 hat9; obtain ⟨A9, cap9, rfl⟩ := hrow9.form; have HRW := Aside0.mk hrow9; have HFR := Aside0.mk hfr9; have HAT := Aside0.mk hat9; clear hrow9 hfr9 hat9 hx0 hxl)
          have HB9 : Aside0 (Both w w9 c (.slice A9 (M.length + 1) cap9) (M ++ [(K, [(i : Int)])]) (M ++ [(K, [(i : Int)])])) := ⟨by
            have HB6 := (HB5.out.belowed (below_alloc (Below.refl _ _) (.cells #[.int .u8 i] 5))).belowed (below_alloc (Below.refl _ _) (.cells #[.int .u8 K, .slice (some ⟨w5.heap.size, 0, none⟩) 1 1] 32))
            have hnew : RowP ((w5.alloc (.cells #[.int .u8 i] 5)).alloc (.cells #[.int .u8 K, .slice (some ⟨w5.heap.size, 0, none⟩) 1 1] 32)) w.heap.size 5 1 (.slice (some ⟨w5.heap.size, 0, none⟩) 1 1) 1 [.int .u8 i] := ⟨rfl, .inr ⟨w5.heap.size, 1, #[.int .u8 i], rfl, HB5.out.below.size, blk_alloc (blk_new _ _) _, Nat.le_refl _, by decide, by simp, rfl⟩⟩
            have := HB6.row (v6' := .slice A9 (M.length + 1) cap9) (L2' := L25 ++ [(K, .slice (some ⟨w5.heap.size, 0, none⟩) 1 1, [(i : Int)])]) HFR.out (fun i hi => .inl hi) (by
              rw [flat_app, List.length_append, HL5.out]; exact HRW.out) (fun p hp => by
              rcases List.mem_append.1 hp with hp | hp
              · exact (KK3.out p hp).of (fun g hg => by
                  have := ((KK3.out p hp).lt g hg).1
                  rw [Below.heap_alloc (w5.alloc _) _ g (by simp; omega), Below.heap_alloc w5 _ g this])
              · obtain rfl := List.mem_singleton.1 hp
                exact hnew) HAT.out
            rw [List.map_append, KK6.out] at this
            exact this⟩
          have HLN := Aside0.mk (len_both HB9.out)
          have hM81 : (M.length : Int) + 1 < 100 := by omega
          have hLen : ((M ++ [(K, [(i : Int)])]).length : Int) = (M.length : Int) + 1 := by simp
          rw [hLen] at HLN
          clear HB1 HCL HB5 HW HM1 HM2 HM3 HC2 KK3 KK6 HL5 HI1 HI2 HI3 HI4 HRW HFR HAT hLen HB' K2 K3
          go_wp2_with fail
          go_at_call 9
          refine HLN.out.mono ?_
          rintro e w10 ⟨rfl, rfl⟩
          go_wp2_with fail
          go_roundg (n0 - (i + 1))
          case measure => have := hk.out; omega
          case rel => exact ⟨i + 1, by go_num, by omega, ⟨rfl⟩, ⟨⟨_, HB9.out, fun p hp => by
            rcases List.mem_append.1 hp with hp | hp
            · exact HO'.out p hp
            · obtain rfl := List.mem_singleton.1 hp; rfl, by have := HM'.out; simp; omega⟩⟩⟩
        · --double0
          obtain rfl : M = [] := List.eq_nil_of_length_eq_zero HZ.out
          go_wp2_with fail
          go_at_call 10
          refine (double_both0 HB'.out pl).mono ?_
          rintro e w5 ⟨rfl, hB5⟩
          have HB5 := Aside0.mk hB5
          have HLN := Aside0.mk (len_both hB5)
          clear hB5 HB' K2 K3 hx1
          obtain ⟨x, e0, hx0'⟩ := R0.out.at HB5.out.below i hlt
          cases e0
          rw [HK.out] at hx0'
          clear hx0
          go_wp2_with fail
          go_at_call 9
          refine HLN.out.mono ?_
          rintro e w10 ⟨rfl, rfl⟩
          go_wp2_with fail
          go_roundg (n0 - (i + 1))
          case measure => have := hk.out; omega
          case rel => exact ⟨i + 1, by go_num, by omega, ⟨rfl⟩, ⟨⟨_, HB5.out, by simp, by simp⟩⟩⟩
        · --lose0
          obtain rfl : M = [] := List.eq_nil_of_length_eq_zero HZ.out
          go_wp2_with fail
          go_at_call 11
          refine (lose_both0 HB'.out pl).mono ?_
          rintro e w5 ⟨rfl, hB5⟩
          have HB5 := Aside0.mk hB5
          have HLN := Aside0.mk (len_both hB5)
          clear hB5 HB' K2 K3 hx1
          obtain ⟨x, e0, hx0'⟩ := R0.out.at HB5.out.below i hlt
          cases e0
          rw [HK.out] at hx0'
          clear hx0
          go_wp2_with fail
          go_at_call 9
          refine HLN.out.mono ?_
          rintro e w10 ⟨rfl, rfl⟩
          go_wp2_with fail
          go_roundg (n0 - (i + 1))
          case measure => have := hk.out; omega
          case rel => exact ⟨i + 1, by go_num, by omega, ⟨rfl⟩, ⟨⟨_, HB5.out, by simp, by simp⟩⟩⟩
        · --take0
          obtain rfl : M = [] := List.eq_nil_of_length_eq_zero HZ.out
          go_wp2_with fail
          go_at_call 8
          refine (take_both0 HB'.out pl).mono ?_
          rintro e w5 ⟨rfl, hB5⟩
          have HB5 := Aside0.mk (hB5.belowed (below_alloc (Below.refl _ _) (.cells #[.int .u8 0, .slice none 0 0] 32)))
          have HLN := Aside0.mk (len_both HB5.out)
          have HLN2 : Aside0 (∀ nq, Calls Try.prog 9 #[.pointer (some ⟨c, 0, none⟩)] ((w5.alloc (.cells #[.int .u8 0, .slice none 0 0] 32)).drewN nq) fun e w' => e = .returned (.int .i64 (([] : List (Int × List Int)).length)) ∧ w' = (w5.alloc (.cells #[.int .u8 0, .slice none 0 0] 32)).drewN nq) := ⟨fun nq => len_both (HB5.out.belowed (pw_below_drewN2 (Below.refl _ _) nq))⟩
          have HB6 : Aside0 (∀ nq, Both w ((w5.alloc (.cells #[.int .u8 0, .slice none 0 0] 32)).drewN nq) c (.slice A6 ([] : List (Int × List Int)).length cap6) [] []) := ⟨fun nq => HB5.out.belowed (pw_below_drewN2 (Below.refl _ _) nq)⟩
          clear hB5 HB' K2 K3 hx1 hx0
          go_wp2_with fail
          go_quiet (fail)
          go_wp2_with fail
          go_at_call 9
          refine (HLN2.out nq).mono ?_
          rintro e w10 ⟨rfl, rfl⟩
          go_wp2_with fail
          go_roundg (n0 - (i + 1))
          case measure => have := hk.out; omega
          case rel => exact ⟨i + 1, by go_num, by omega, ⟨rfl⟩, ⟨⟨_, HB6.out nq, by simp, by simp⟩⟩⟩
      ·
        have hz0 : (0 : Int) < M.length := by omega
        have hz1 : ((M.length : Int) == 0) = false := by (have h : (M.length : Int) ≠ 0 := by omega); simpa using h
        have hkk : (k : Int) = (pl.tmod M.length + M.length).tmod M.length := by
          have h1 := Int.tmod_lt_of_pos pl hz0
          have h2 := Int.lt_tmod_of_pos pl hz0
          have h3 := Int.tmod_nonneg M.length (show (0:Int) ≤ pl.tmod M.length + M.length by omega)
          rw [HKP.out]; unfold plc
          omega
        have hkl : (k : Int) < M.length := by
          have h4 := Int.tmod_lt_of_pos (pl.tmod M.length + M.length) hz0
          omega
        obtain ⟨t1, ht1⟩ : ∃ t1, pl.tmod M.length + M.length = t1 := ⟨_, rfl⟩
        have hw1 : wrap64 (pl.tmod M.length + M.length) = t1 := by
          have h1 := Int.tmod_lt_of_pos pl hz0
          have h2 := Int.lt_tmod_of_pos pl hz0
          rw [← ht1]; unfold wrap64; omega
        have hw2 : t1.tmod M.length = k := by rw [← ht1, hkk]
        have hkl2 : k < M.length := by omega
        have hz2 : 0 < M.length := by omega
        clear hkk ht1 hz
        rcases hr5 with rfl | rfl | rfl | rfl | rfl
        · --send
          go_wp2_with fail
          go_at_call 7
          have HB1 := Aside0.mk (HB'.out.belowed (below_alloc (Below.refl _ _) (.cells #[.int .u8 i] 5)))
          have hM512 : M.length < 512 := by omega
          have HCL : Aside0 (∀ j u, (([(i : Int)]).map (Value.int .u8))[j]? = some u → (wr.alloc (.cells #[.int .u8 i] 5)).cell? ((⟨wr.heap.size, 0, none⟩ : Addr).add j) = some u) := ⟨fun j u hj => cell_one_new wr (.int .u8 i) 5 j u hj⟩
          refine (send_both HB1.out hM512 K 1 1 [(i : Int)] ⟨wr.heap.size, 0, none⟩ rfl (by decide) HCL.out).mono ?_
          rintro e w5 ⟨rfl, hB5⟩
          have HB5 := Aside0.mk hB5
          clear hB5 hx0 hx1
          obtain ⟨x, e0, hx0⟩ := R0.out.at HB5.out.below i hlt
          cases e0
          rw [HK.out] at hx0
          have hxl := World.block_lt_of_cell? w5 _ hx0
          obtain ⟨lv5, L5, L25, k1, k2, k3, k4, k5, k6⟩ := HB5.out.ex
          have hlen5 := len_bare k6
          rw [hlen5] at k2
          have HW : Aside0 (RowP ((w5.alloc (.cells #[.int .u8 i] 5)).alloc (.cells #[.int .u8 K, .slice (some ⟨w5.heap.size, 0, none⟩) 1 1] 32)) w.heap.size 32 2 (.slice A6 M.length cap6) M.length (flat L25)) := ⟨k2.of (fun g hg => by
            have := (k2.lt g hg).1
            rw [Below.heap_alloc (w5.alloc _) _ g (by simp; omega), Below.heap_alloc w5 _ g this])⟩
          have HM1 : Aside0 (M.length + 1 ≤ maxLen) := ⟨by unfold maxLen; omega⟩
          have HM2 : Aside0 ((M.length + 1) * 32 ≤ 140737488355328) := ⟨by omega⟩
          have HM3 : Aside0 (w.heap.size ≤ ((w5.alloc (.cells #[.int .u8 i] 5)).alloc (.cells #[.int .u8 K, .slice (some ⟨w5.heap.size, 0, none⟩) 1 1] 32)).heap.size) := ⟨by have := HB5.out.below.size; simp; omega⟩
          have HC2 : Aside0 (∀ j u, [Value.int .u8 K, .slice (some ⟨w5.heap.size, 0, none⟩) 1 1][j]? = some u → ((w5.alloc (.cells #[.int .u8 i] 5)).alloc (.cells #[.int .u8 K, .slice (some ⟨w5.heap.size, 0, none⟩) 1 1] 32)).cell? ((⟨w5.heap.size + 1, 0, none⟩ : Addr).add j) = some u) := ⟨fun j u hj => by
            have h := cell_two_new2 (w5.alloc (.cells #[.int .u8 i] 5)) (.int .u8 K) (.slice (some ⟨w5.heap.size, 0, none⟩) 1 1) 32 j u hj
            rwa [World.size_alloc] at h⟩
          have KK3 := Aside0.mk k3
          have KK6 := Aside0.mk k6
          have HL5 := Aside0.mk hlen5
          clear k1 k2 k3 k4 k5 k6 hlen5 hM512
          obtain ⟨i0, hif, hz0_, hz1_, hz2_⟩ := info_parts info32
          have HI1 := Aside0.mk hif
          have HI2 := Aside0.mk hz0_
          have HI3 := Aside0.mk hz1_
          have HI4 := Aside0.mk hz2_
          clear hif hz0_ hz1_ hz2_
          go_wp2_with (at_builtin; refine wpList_append_p _ rfl (.tmp 138) (.tmp 147) 25 rfl w.heap.size 32 i0 _ 2 32 Try.underlying25 HI1.out HI2.out HI3.out HI4.out rfl Nat.zero_lt_two (.slice A6 M.length cap6) M.length (flat L25) rfl HW.out ⟨w5.heap.size + 1, 0, none⟩ 1 1 [.int .u8 K, .slice (some ⟨w5.heap.size, 0, none⟩) 1 1] rfl rfl HC2.out (one2 _ _ _ _) HM1.out HM2.out HM3.out ?_; intro v9 w9 hrow9 hfr9 hat9; obtain ⟨A9, cap9, rfl⟩ := hrow9.form; have HRW := Aside0.mk hrow9; have HFR := Aside0.mk hfr9; have HAT := Aside0.mk hat9; clear hrow9 hfr9 hat9 hx0 hxl)
          have HB9 : Aside0 (Both w w9 c (.slice A9 (M.length + 1) cap9) (M ++ [(K, [(i : Int)])]) (M ++ [(K, [(i : Int)])])) := ⟨by
            have HB6 := (HB5.out.belowed (below_alloc (Below.refl _ _) (.cells #[.int .u8 i] 5))).belowed (below_alloc (Below.refl _ _) (.cells #[.int .u8 K, .slice (some ⟨w5.heap.size, 0, none⟩) 1 1] 32))
            have hnew : RowP ((w5.alloc (.cells #[.int .u8 i] 5)).alloc (.cells #[.int .u8 K, .slice (some ⟨w5.heap.size, 0, none⟩) 1 1] 32)) w.heap.size 5 1 (.slice (some ⟨w5.heap.size, 0, none⟩) 1 1) 1 [.int .u8 i] := ⟨rfl, .inr ⟨w5.heap.size, 1, #[.int .u8 i], rfl, HB5.out.below.size, blk_alloc (blk_new _ _) _, Nat.le_refl _, by decide, by simp, rfl⟩⟩
            have := HB6.row (v6' := .slice A9 (M.length + 1) cap9) (L2' := L25 ++ [(K, .slice (some ⟨w5.heap.size, 0, none⟩) 1 1, [(i : Int)])]) HFR.out (fun i hi => .inl hi) (by
              rw [flat_app, List.length_append, HL5.out]; exact HRW.out) (fun p hp => by
              rcases List.mem_append.1 hp with hp | hp
              · exact (KK3.out p hp).of (fun g hg => by
                  have := ((KK3.out p hp).lt g hg).1
                  rw [Below.heap_alloc (w5.alloc _) _ g (by simp; omega), Below.heap_alloc w5 _ g this])
              · obtain rfl := List.mem_singleton.1 hp
                exact hnew) HAT.out
            rw [List.map_append, KK6.out] at this
            exact this⟩
          have HLN := Aside0.mk (len_both HB9.out)
          have hM81 : (M.length : Int) + 1 < 100 := by omega
          have hLen : ((M ++ [(K, [(i : Int)])]).length : Int) = (M.length : Int) + 1 := by simp
          rw [hLen] at HLN
          clear HB1 HCL HB5 HW HM1 HM2 HM3 HC2 KK3 KK6 HL5 HI1 HI2 HI3 HI4 HRW HFR HAT hLen HB' K2 K3
          go_wp2_with fail
          go_at_call 9
          refine HLN.out.mono ?_
          rintro e w10 ⟨rfl, rfl⟩
          go_wp2_with fail
          go_roundg (n0 - (i + 1))
          case measure => have := hk.out; omega
          case rel => exact ⟨i + 1, by go_num, by omega, ⟨rfl⟩, ⟨⟨_, HB9.out, fun p hp => by
            rcases List.mem_append.1 hp with hp | hp
            · exact HO'.out p hp
            · obtain rfl := List.mem_singleton.1 hp; rfl, by have := HM'.out; simp; omega⟩⟩⟩
        · --send
          go_wp2_with fail
          go_at_call 7
          have HB1 := Aside0.mk (HB'.out.belowed (below_alloc (Below.refl _ _) (.cells #[.int .u8 i] 5)))
          have hM512 : M.length < 512 := by omega
          have HCL : Aside0 (∀ j u, (([(i : Int)]).map (Value.int .u8))[j]? = some u → (wr.alloc (.cells #[.int .u8 i] 5)).cell? ((⟨wr.heap.size, 0, none⟩ : Addr).add j) = some u) := ⟨fun j u hj => cell_one_new wr (.int .u8 i) 5 j u hj⟩
          refine (send_both HB1.out hM512 K 1 1 [(i : Int)] ⟨wr.heap.size, 0, none⟩ rfl (by decide) HCL.out).mono ?_
          rintro e w5 ⟨rfl, hB5⟩
          have HB5 := Aside0.mk hB5
          clear hB5 hx0 hx1
          obtain ⟨x, e0, hx0⟩ := R0.out.at HB5.out.below i hlt
          cases e0
          rw [HK.out] at hx0
          have hxl := World.block_lt_of_cell? w5 _ hx0
          obtain ⟨lv5, L5, L25, k1, k2, k3, k4, k5, k6⟩ := HB5.out.ex
          have hlen5 := len_bare k6
          rw [hlen5] at k2
          have HW : Aside0 (RowP ((w5.alloc (.cells #[.int .u8 i] 5)).alloc (.cells #[.int .u8 K, .slice (some ⟨w5.heap.size, 0, none⟩) 1 1] 32)) w.heap.size 32 2 (.slice A6 M.length cap6) M.length (flat L25)) := ⟨k2.of (fun g hg => by
            have := (k2.lt g hg).1
            rw [Below.heap_alloc (w5.alloc _) _ g (by simp; omega), Below.heap_alloc w5 _ g this])⟩
          have HM1 : Aside0 (M.length + 1 ≤ maxLen) := ⟨by unfold maxLen; omega⟩
          have HM2 : Aside0 ((M.length + 1) * 32 ≤ 140737488355328) := ⟨by omega⟩
          have HM3 : Aside0 (w.heap.size ≤ ((w5.alloc (.cells #[.int .u8 i] 5)).alloc (.cells #[.int .u8 K, .slice (some ⟨w5.heap.size, 0, none⟩) 1 1] 32)).heap.size) := ⟨by have := HB5.out.below.size; simp; omega⟩
          have HC2 : Aside0 (∀ j u, [Value.int .u8 K, .slice (some ⟨w5.heap.size, 0, none⟩) 1 1][j]? = some u → ((w5.alloc (.cells #[.int .u8 i] 5)).alloc (.cells #[.int .u8 K, .slice (some ⟨w5.heap.size, 0, none⟩) 1 1] 32)).cell? ((⟨w5.heap.size + 1, 0, none⟩ : Addr).add j) = some u) := ⟨fun j u hj => by
            have h := cell_two_new2 (w5.alloc (.cells #[.int .u8 i] 5)) (.int .u8 K) (.slice (some ⟨w5.heap.size, 0, none⟩) 1 1) 32 j u hj
            rwa [World.size_alloc] at h⟩
          have KK3 := Aside0.mk k3
          have KK6 := Aside0.mk k6
          have HL5 := Aside0.mk hlen5
          clear k1 k2 k3 k4 k5 k6 hlen5 hM512
          obtain ⟨i0, hif, hz0_, hz1_, hz2_⟩ := info_parts info32
          have HI1 := Aside0.mk hif
          have HI2 := Aside0.mk hz0_
          have HI3 := Aside0.mk hz1_
          have HI4 := Aside0.mk hz2_
          clear hif hz0_ hz1_ hz2_
          go_wp2_with (at_builtin; refine wpList_append_p _ rfl (.tmp 138) (.tmp 147) 25 rfl w.heap.size 32 i0 _ 2 32 Try.underlying25 HI1.out HI2.out HI3.out HI4.out rfl Nat.zero_lt_two (.slice A6 M.length cap6) M.length (flat L25) rfl HW.out ⟨w5.heap.size + 1, 0, none⟩ 1 1 [.int .u8 K, .slice (some ⟨w5.heap.size, 0, none⟩) 1 1] rfl rfl HC2.out (one2 _ _ _ _) HM1.out HM2.out HM3.out ?_; intro v9 w9 hrow9 hfr9 hat9; obtain ⟨A9, cap9, rfl⟩ := hrow9.form; have HRW := Aside0.mk hrow9; have HFR := Aside0.mk hfr9; have HAT := Aside0.mk hat9; clear hrow9 hfr9 hat9 hx0 hxl)
          have HB9 : Aside0 (Both w w9 c (.slice A9 (M.length + 1) cap9) (M ++ [(K, [(i : Int)])]) (M ++ [(K, [(i : Int)])])) := ⟨by
            have HB6 := (HB5.out.belowed (below_alloc (Below.refl _ _) (.cells #[.int .u8 i] 5))).belowed (below_alloc (Below.refl _ _) (.cells #[.int .u8 K, .slice (some ⟨w5.heap.size, 0, none⟩) 1 1] 32))
            have hnew : RowP ((w5.alloc (.cells #[.int .u8 i] 5)).alloc (.cells #[.int .u8 K, .slice (some ⟨w5.heap.size, 0, none⟩) 1 1] 32)) w.heap.size 5 1 (.slice (some ⟨w5.heap.size, 0, none⟩) 1 1) 1 [.int .u8 i] := ⟨rfl, .inr ⟨w5.heap.size, 1, #[.int .u8 i], rfl, HB5.out.below.size, blk_alloc (blk_new _ _) _, Nat.le_refl _, by decide, by simp, rfl⟩⟩
            have := HB6.row (v6' := .slice A9 (M.length + 1) cap9) (L2' := L25 ++ [(K, .slice (some ⟨w5.heap.size, 0, none⟩) 1 1, [(i : Int)])]) HFR.out (fun i hi => .inl hi) (by
              rw [flat_app, List.length_append, HL5.out]; exact HRW.out) (fun p hp => by
              rcases List.mem_append.1 hp with hp | hp
              · exact (KK3.out p hp).of (fun g hg => by
                  have := ((KK3.out p hp).lt g hg).1
                  rw [Below.heap_alloc (w5.alloc _) _ g (by simp; omega), Below.heap_alloc w5 _ g this])
              · obtain rfl := List.mem_singleton.1 hp
                exact hnew) HAT.out
            rw [List.map_append, KK6.out] at this
            exact this⟩
          have HLN := Aside0.mk (len_both HB9.out)
          have hM81 : (M.length : Int) + 1 < 100 := by omega
          have hLen : ((M ++ [(K, [(i : Int)])]).length : Int) = (M.length : Int) + 1 := by simp
          rw [hLen] at HLN
          clear HB1 HCL HB5 HW HM1 HM2 HM3 HC2 KK3 KK6 HL5 HI1 HI2 HI3 HI4 HRW HFR HAT hLen HB' K2 K3
          go_wp2_with fail
          go_at_call 9
          refine HLN.out.mono ?_
          rintro e w10 ⟨rfl, rfl⟩
          go_wp2_with fail
          go_roundg (n0 - (i + 1))
          case measure => have := hk.out; omega
          case rel => exact ⟨i + 1, by go_num, by omega, ⟨rfl⟩, ⟨⟨_, HB9.out, fun p hp => by
            rcases List.mem_append.1 hp with hp | hp
            · exact HO'.out p hp
            · obtain rfl := List.mem_singleton.1 hp; rfl, by have := HM'.out; simp; omega⟩⟩⟩
        · --double
          go_wp2_with fail
          go_at_call 10
          have hM512 : M.length < 512 := by omega
          refine (double_both HB'.out hM512 hz2 HO'.out pl).mono ?_
          rintro e w5 ⟨rfl, p5, hp5, hB5⟩
          rw [← HKP.out] at hp5
          have HP5 := Aside0.mk hp5
          have HB5 := Aside0.mk hB5
          clear hB5 hx0 hx1 hp5 HB' K2 K3 K6 hM512
          obtain ⟨lv5, L5, L25, k1, k2, k3, k4, k5, k6⟩ := HB5.out.ex
          have hlen5 := len_bare k6
          rw [hlen5] at k2
          obtain ⟨gl, cl, eA, hgl0, hgl1, hcl⟩ := k2.cells hz2
          injection eA with eA1 _ eA2
          subst eA1 eA2
          obtain ⟨p, hp⟩ : ∃ p, M[k]? = some p := ⟨_, List.getElem?_eq_getElem hkl2⟩
          have hp1 := HO'.out p (List.mem_of_getElem? hp)
          obtain ⟨pv, hlk, hpr, hpo⟩ := let_at k3 k6 hp
          obtain ⟨fl0, fl1⟩ := flat_at hlk
          have y0 := hcl _ _ fl0
          have y1 := hcl _ _ fl1
          dsimp only at y0 y1
          have hcap : M.length ≤ cap6 := by
            obtain ⟨_, (⟨hq, _⟩ | ⟨g', cap', cur, hq, h2, h3, h4, h5⟩)⟩ := k2
            · cases hq
            · injection hq with _ _ hq; omega
          have HK1 := Aside0.mk k2
          have HK3 := Aside0.mk k3
          have HK6 := Aside0.mk k6
          have HL5 := Aside0.mk hlen5
          have HPP := Aside0.mk hp
          have HP1 := Aside0.mk hp1
          have HPO := Aside0.mk hpo
          have HPR := Aside0.mk hpr
          have HLK := Aside0.mk hlk
          have HONE := Aside0.mk (flat_one k3)
          have HCL : Aside0 (∀ {W : World}, Below w5.heap.size w5 W → ∀ j u, (flat L25)[j]? = some u → W.cell? ⟨gl, j, none⟩ = some u) := ⟨fun hB j u hj => by
            have := hcl j u hj
            rw [hB.cell (World.block_lt_of_cell? w5 _ this)]
            exact this⟩
          have HBS : Aside0 (w.heap.size ≤ w5.heap.size) := ⟨HB5.out.below.size⟩
          have HY0 := Aside0.mk y0
          have HY1 := Aside0.mk y1
          obtain ⟨pt, pb⟩ := p
          obtain ⟨i0, hif, hz0_, hz1_, hz2_⟩ := info_parts info32
          have HI1 := Aside0.mk hif
          have HI2 := Aside0.mk hz0_
          have HI3 := Aside0.mk hz1_
          have HI4 := Aside0.mk hz2_
          clear hif hz0_ hz1_ hz2_ k1 k2 k3 k4 k5 k6 hlen5 hp hp1 hpo hpr hlk hcl
          obtain rfl : (pt, pb) = p5 := Option.some.inj (HPP.out.symm.trans HP5.out)
          have HM1 : Aside0 (0 + M.length ≤ maxLen) := ⟨by unfold maxLen; omega⟩
          have HM2 : Aside0 ((0 + M.length) * 32 ≤ 140737488355328) := ⟨by omega⟩
          have HM3 : Aside0 (M.length + 1 ≤ maxLen) := ⟨by unfold maxLen; omega⟩
          have HM4 : Aside0 ((M.length + 1) * 32 ≤ 140737488355328) := ⟨by omega⟩
          have HFL : Aside0 ((flat L25).length = M.length * 2) := ⟨by rw [flat_len, HL5.out]⟩
          have hgw : gl < w5.heap.size := hgl1
          have ne1 : gl ≠ w5.heap.size := Nat.ne_of_lt hgw
          have ne2 : w5.heap.size ≠ gl := Nat.ne_of_gt hgw
          obtain ⟨Ap, cp, hpe⟩ := HPR.out.form
          dsimp only at hpe
          subst hpe
          go_upto_region 32 with fail
          have HD1 : Aside0 (Below w5.heap.size w5 w5.drew) := ⟨bel_drew (Below.refl _ _)⟩
          have HD2 : Aside0 (Below w5.heap.size w5 (w5.alloc (.cells #[.int .u8 pt, .slice Ap pb.length cp] 32)).drew) := ⟨bel_drew (below_alloc (Below.refl _ _) _)⟩
          have HCL2 : Aside0 (∀ {W : World}, Below w5.heap.size w5 W → ∀ j u, (flat L25)[j]? = some u → W.cell? ((⟨gl, 0, none⟩ : Addr).add j) = some u) := ⟨fun hB j u hj => by rw [add_plain]; exact HCL.out hB j u hj⟩
          go_region_law (first
            | (refine step_append_p rfl (.const (.slice none 0 0)) (.tmp 174) 25 rfl w.heap.size 32 i0 _ 2 32 Try.underlying25 HI1.out HI2.out HI3.out HI4.out rfl Nat.zero_lt_two (.slice none 0 0) 0 [] rfl (rowP_nil _ _ _ _) ⟨gl, 0, none⟩ M.length cap6 (flat L25) rfl HFL.out (HCL2.out HD1.out) HONE.out HM1.out HM2.out (Nat.le_trans HBS.out HD1.out.size) ?_
               intro v1 w1 hrow1 hfr1 hat1
               rw [Nat.zero_add, List.nil_append] at hrow1
               obtain ⟨A1, c1, rfl⟩ := hrow1.form
               have hb1 : Below w5.heap.size w5 w1 := HD1.out.trans ((hfr1.below (Nat.le_refl _) (fun i hi => absurd hi (nil_block i))).mono HD1.out.size)
               have m0 := HCL.out hb1 _ _ fl0
               have m1 := HCL.out hb1 _ _ fl1
               have HBB : Aside0 (w.heap.size ≤ w1.heap.size) := ⟨Nat.le_trans HBS.out hb1.size⟩)
            | (refine step_append_p rfl (.const (.slice none 0 0)) (.tmp 174) 25 rfl w.heap.size 32 i0 _ 2 32 Try.underlying25 HI1.out HI2.out HI3.out HI4.out rfl Nat.zero_lt_two (.slice none 0 0) 0 [] rfl (rowP_nil _ _ _ _) ⟨gl, 0, none⟩ M.length cap6 (flat L25) rfl HFL.out (HCL2.out HD2.out) HONE.out HM1.out HM2.out (Nat.le_trans HBS.out HD2.out.size) ?_
               intro v1 w1 hrow1 hfr1 hat1
               rw [Nat.zero_add, List.nil_append] at hrow1
               obtain ⟨A1, c1, rfl⟩ := hrow1.form
               have hb1 : Below w5.heap.size w5 w1 := HD2.out.trans ((hfr1.below (Nat.le_refl _) (fun i hi => absurd hi (nil_block i))).mono HD2.out.size)
               have m0 := HCL.out hb1 _ _ fl0
               have m1 := HCL.out hb1 _ _ fl1
               have HBB : Aside0 (w.heap.size ≤ w1.heap.size) := ⟨Nat.le_trans HBS.out hb1.size⟩
               have HREC : Aside0 (∀ j u, [Value.int .u8 pt, .slice Ap pb.length cp][j]? = some u → w1.cell? ((⟨w5.heap.size, 0, none⟩ : Addr).add j) = some u) := ⟨rec_cells hfr1⟩)
            | (refine step_append_p rfl (.tmp 175) (.tmp 180) 25 rfl w.heap.size 32 i0 _ 2 32 Try.underlying25 HI1.out HI2.out HI3.out HI4.out rfl Nat.zero_lt_two (.slice A1 M.length c1) M.length (flat L25) rfl (hrow1.of (fun g hg => Below.heap_alloc w1 _ g (hrow1.lt g hg).1)) ⟨_, 0, none⟩ 1 1 [.int .u8 pt, .slice Ap pb.length cp] rfl rfl (fun j u hj => cell_two_new2 w1 _ _ 32 j u hj) (one2 _ _ _ _) HM3.out HM4.out (Nat.le_trans HBB.out (Below.size (below_alloc (Below.refl _ w1) (.cells #[.int .u8 pt, .slice Ap pb.length cp] 32)))) ?_
               intro v2 w2 hrow2 hfr2 hat2
               obtain ⟨A2, c2, rfl⟩ := hrow2.form)
            | (refine step_append_p rfl (.tmp 175) (.tmp 180) 25 rfl w.heap.size 32 i0 _ 2 32 Try.underlying25 HI1.out HI2.out HI3.out HI4.out rfl Nat.zero_lt_two (.slice A1 M.length c1) M.length (flat L25) rfl hrow1 ⟨w5.heap.size, 0, none⟩ 1 1 [.int .u8 pt, .slice Ap pb.length cp] rfl rfl HREC.out (one2 _ _ _ _) HM3.out HM4.out HBB.out ?_
               intro v2 w2 hrow2 hfr2 hat2
               obtain ⟨A2, c2, rfl⟩ := hrow2.form))
          all_goals
            have HB9 : Aside0 (∀ {Y : World}, Below w2.heap.size w2 Y → Both w Y c (.slice A2 (M.length + 1) c2) (M ++ [(pt, pb)]) (M ++ [(pt, pb)])) := ⟨fun hY => by
              have h := two_appends (L2' := L25 ++ [(pt, .slice Ap pb.length cp, pb)]) HB5.out (by first | exact HD1.out | exact HD2.out) hfr1 hat1 (by first | exact below_alloc (Below.refl _ _) _ | exact Below.refl _ _) hfr2 hat2 hY (by rw [flat_app, List.length_append, HL5.out]; exact hrow2) (fun q hq => by
                rcases List.mem_append.1 hq with hq | hq
                · exact HK3.out q hq
                · obtain rfl := List.mem_singleton.1 hq
                  exact HPR.out)
              rw [List.map_append, HK6.out] at h
              exact h⟩
            have HLN : Aside0 (∀ {Y : World}, Below w2.heap.size w2 Y → Calls Try.prog 9 #[.pointer (some ⟨c, 0, none⟩)] Y fun e w' => e = .returned (.int .i64 ((M.length : Int) + 1)) ∧ w' = Y) := ⟨fun hY => by
              have h := len_both (HB9.out hY)
              rw [show ((M ++ [(pt, pb)]).length : Int) = (M.length : Int) + 1 by simp] at h
              exact h⟩
            have hM81 : (M.length : Int) + 1 < 100 := by omega
            clear hrow1 hfr1 hat1 hb1 m0 m1 hrow2 hfr2 hat2 HBB HD1 HD2 HCL2 y0 y1
            go_wp2_with fail
            go_at_call 9
            first
              | ((with_reducible refine (HLN.out (Below.refl _ _)).mono ?_); have HBE := Aside0.mk (HB9.out (Below.refl _ _)))
              | ((with_reducible refine (HLN.out (bel_drew (Below.refl _ _))).mono ?_); have HBE := Aside0.mk (HB9.out (bel_drew (Below.refl _ _))))
            rintro e w10 ⟨rfl, rfl⟩
            go_wp2_with fail
            go_roundg (n0 - (i + 1))
            case measure => have := hk.out; omega
            case rel => exact ⟨i + 1, by go_num, by omega, ⟨rfl⟩, ⟨⟨_, HBE.out, fun q hq => by
              rcases List.mem_append.1 hq with hq | hq
              · exact HO'.out q hq
              · obtain rfl := List.mem_singleton.1 hq; exact HP1.out, by have := HM'.out; simp; omega⟩⟩⟩
        · --lose
          go_wp2_with fail
          go_at_call 11
          have hM512 : M.length < 512 := by omega
          refine (lose_both HB'.out hM512 hz2 pl).mono ?_
          rintro e w5 ⟨rfl, hB5⟩
          rw [← HKP.out] at hB5
          have HB5 := Aside0.mk hB5
          clear hB5 hx0 hx1 HB' K2 K3 K6 hM512
          obtain ⟨lv5, L5, L25, k1, k2, k3, k4, k5, k6⟩ := HB5.out.ex
          have hlen5 := len_bare k6
          rw [hlen5] at k2
          obtain ⟨gl, cl, eA, hgl0, hgl1, hcl⟩ := k2.cells hz2
          injection eA with eA1 _ eA2
          subst eA1 eA2
          obtain ⟨p, hp⟩ : ∃ p, M[k]? = some p := ⟨_, List.getElem?_eq_getElem hkl2⟩
          have hp1 := HO'.out p (List.mem_of_getElem? hp)
          obtain ⟨pv, hlk, hpr, hpo⟩ := let_at k3 k6 hp
          obtain ⟨fl0, fl1⟩ := flat_at hlk
          have y0 := hcl _ _ fl0
          have y1 := hcl _ _ fl1
          dsimp only at y0 y1
          have hcap : M.length ≤ cap6 := by
            obtain ⟨_, (⟨hq, _⟩ | ⟨g', cap', cur, hq, h2, h3, h4, h5⟩)⟩ := k2
            · cases hq
            · injection hq with _ _ hq; omega
          have HK1 := Aside0.mk k2
          have HK3 := Aside0.mk k3
          have HK6 := Aside0.mk k6
          have HL5 := Aside0.mk hlen5
          have HPP := Aside0.mk hp
          have HP1 := Aside0.mk hp1
          have HPO := Aside0.mk hpo
          have HPR := Aside0.mk hpr
          have HLK := Aside0.mk hlk
          have HONE := Aside0.mk (flat_one k3)
          have HCL : Aside0 (∀ {W : World}, Below w5.heap.size w5 W → ∀ j u, (flat L25)[j]? = some u → W.cell? ⟨gl, j, none⟩ = some u) := ⟨fun hB j u hj => by
            have := hcl j u hj
            rw [hB.cell (World.block_lt_of_cell? w5 _ this)]
            exact this⟩
          have HBS : Aside0 (w.heap.size ≤ w5.heap.size) := ⟨HB5.out.below.size⟩
          have HY0 := Aside0.mk y0
          have HY1 := Aside0.mk y1
          obtain ⟨pt, pb⟩ := p
          obtain ⟨i0, hif, hz0_, hz1_, hz2_⟩ := info_parts info32
          have HI1 := Aside0.mk hif
          have HI2 := Aside0.mk hz0_
          have HI3 := Aside0.mk hz1_
          have HI4 := Aside0.mk hz2_
          clear hif hz0_ hz1_ hz2_ k1 k2 k3 k4 k5 k6 hlen5 hp hp1 hpo hpr hlk hcl
          obtain ⟨Ap, cp, hpe⟩ := HPR.out.form
          dsimp only at hpe
          subst hpe
          have hgw : gl < w5.heap.size := hgl1
          have u3 : (k : Int) ≤ cap6 := by omega
          have u4 : (k : Int) + 1 ≤ M.length := by omega
          have u5 : (M.length : Int) ≤ cap6 := by omega
          have u6 : ((k : Int) + 1).toNat = k + 1 := by omega
          have u7 : IntKind.i64.wrap ((k : Int) + 1) = ((k + 1 : Nat) : Int) := by rw [IntKind.wrap_i64]; omega
          have u8 : ((k + 1 : Nat) : Int) ≤ M.length := by omega
          have u9 : 0 ≤ (k : Int) + 1 := by omega
          obtain ⟨ad, had, had2⟩ : ∃ ad : Addr, (if cap6 = k + 1 then some (⟨gl, 0, none⟩ : Addr) else some ⟨gl, (k + 1) * 2, none⟩) = some ad ∧ (k + 1 < M.length → ad = ⟨gl, (k + 1) * 2, none⟩) := by
            by_cases h : cap6 = k + 1
            · exact ⟨_, if_pos h, fun h2 => by omega⟩
            · exact ⟨_, if_neg h, fun _ => rfl⟩
          have HD1 : Aside0 (Below w5.heap.size w5 w5.drew) := ⟨bel_drew (Below.refl _ _)⟩
          have HTK : Aside0 (∀ {W : World}, Below w5.heap.size w5 W → ∀ j u, (flat (L25.take k))[j]? = some u → W.cell? ((⟨gl, 0, none⟩ : Addr).add j) = some u) := ⟨fun hB j u hj => by rw [add_plain]; exact HCL.out hB j u (flat_take L25 k j u hj)⟩
          have HDR : Aside0 (∀ {W : World}, Below w5.heap.size w5 W → ∀ j u, (flat (L25.drop (k + 1)))[j]? = some u → W.cell? (ad.add j) = some u) := ⟨fun hB j u hj => by
            have hk1 : k + 1 < M.length := by
              by_cases h : k + 1 < M.length
              · exact h
              · rw [List.drop_eq_nil_of_le (by rw [HL5.out]; omega)] at hj; simp [flat] at hj
            rw [had2 hk1, show (⟨gl, (k + 1) * 2, none⟩ : Addr).add j = ⟨gl, (k + 1) * 2 + j, none⟩ by simp [Addr.add]]
            exact HCL.out hB _ u (flat_drop L25 (k + 1) (by rw [HL5.out]; omega) j u hj)⟩
          clear had2
          have HO1 : Aside0 (∀ u ∈ flat (L25.take k), u.oneCell' = true) := ⟨flat_one (fun q hq => HK3.out q (List.mem_of_mem_take hq))⟩
          have HO2 : Aside0 (∀ u ∈ flat (L25.drop (k + 1)), u.oneCell' = true) := ⟨flat_one (fun q hq => HK3.out q (List.mem_of_mem_drop hq))⟩
          have HF1 : Aside0 ((flat (L25.take k)).length = k * 2) := ⟨by rw [flat_len, List.length_take, HL5.out, Nat.min_eq_left (by omega)]⟩
          have HF2 : Aside0 ((flat (L25.drop (k + 1))).length = (M.length - (k + 1)) * 2) := ⟨by rw [flat_len, List.length_drop, HL5.out]⟩
          have HM1 : Aside0 (0 + k ≤ maxLen) := ⟨by unfold maxLen; omega⟩
          have HM2 : Aside0 ((0 + k) * 32 ≤ 140737488355328) := ⟨by omega⟩
          have HM3 : Aside0 (k + (M.length - (k + 1)) ≤ maxLen) := ⟨by unfold maxLen; omega⟩
          have HM4 : Aside0 ((k + (M.length - (k + 1))) * 32 ≤ 140737488355328) := ⟨by omega⟩
          clear y0 y1
          go_upto_region 22 with fail
          go_region_law (first
            | (refine step_append_p rfl (.const (.slice none 0 0)) (.tmp 119) 25 rfl w.heap.size 32 i0 _ 2 32 Try.underlying25 HI1.out HI2.out HI3.out HI4.out rfl Nat.zero_lt_two (.slice none 0 0) 0 [] rfl (rowP_nil _ _ _ _) ⟨gl, 0, none⟩ k cap6 (flat (L25.take k)) ?he1L HF1.out (HTK.out HD1.out) HO1.out HM1.out HM2.out (Nat.le_trans HBS.out HD1.out.size) ?hk1L
               case he1L => kernel_rfl
               intro v1 w1 hrow1 hfr1 hat1
               rw [Nat.zero_add, List.nil_append] at hrow1
               obtain ⟨A1, c1, rfl⟩ := hrow1.form
               have hb1 : Below w5.heap.size w5 w1 := HD1.out.trans ((hfr1.below (Nat.le_refl _) (fun i hi => absurd hi (nil_block i))).mono HD1.out.size)
               have HBB : Aside0 (w.heap.size ≤ w1.heap.size) := ⟨Nat.le_trans HBS.out hb1.size⟩)
            | (refine step_append_p rfl (.tmp 120) (.tmp 124) 25 rfl w.heap.size 32 i0 _ 2 32 Try.underlying25 HI1.out HI2.out HI3.out HI4.out rfl Nat.zero_lt_two (.slice A1 k c1) k (flat (L25.take k)) ?he2L hrow1 ad (M.length - (k + 1)) (cap6 - (k + 1)) (flat (L25.drop (k + 1))) ?he3L HF2.out (HDR.out hb1) HO2.out HM3.out HM4.out HBB.out ?hk2L
               case he2L => kernel_rfl
               case he3L => kernel_rfl
               intro v2 w2 hrow2 hfr2 hat2
               obtain ⟨A2, c2, rfl⟩ := hrow2.form))
          all_goals
            have HB9 : Aside0 (∀ {Y : World}, Below w2.heap.size w2 Y → Both w Y c (.slice A2 (k + (M.length - (k + 1))) c2) (M.take k ++ M.drop (k + 1)) (M.take k ++ M.drop (k + 1))) := ⟨fun hY => by
              have h := two_appends (L2' := L25.take k ++ L25.drop (k + 1)) HB5.out HD1.out hfr1 hat1 (Below.refl _ _) hfr2 hat2 hY (by rw [flat_app, List.length_append, List.length_take, List.length_drop, HL5.out, Nat.min_eq_left (by omega)]; exact hrow2) (fun q hq => by
                rcases List.mem_append.1 hq with hq | hq
                · exact HK3.out q (List.mem_of_mem_take hq)
                · exact HK3.out q (List.mem_of_mem_drop hq))
              rw [List.map_append, List.map_take, List.map_drop, HK6.out] at h
              exact h⟩
            have HLE : Aside0 ((M.take k ++ M.drop (k + 1)).length = k + (M.length - (k + 1))) := ⟨by rw [List.length_append, List.length_take, List.length_drop, Nat.min_eq_left (by omega)]⟩
            have HLN : Aside0 (∀ {Y : World}, Below w2.heap.size w2 Y → Calls Try.prog 9 #[.pointer (some ⟨c, 0, none⟩)] Y fun e w' => e = .returned (.int .i64 ((k + (M.length - (k + 1)) : Nat) : Int)) ∧ w' = Y) := ⟨fun hY => by
              have h := len_both (HB9.out hY)
              rw [HLE.out] at h
              exact h⟩
            clear hrow1 hfr1 hat1 hb1 hrow2 hfr2 hat2 HBB HD1 HTK HDR HCL HO1 HO2 HF1 HF2
            obtain ⟨mm, hmm⟩ : ∃ mm, mm = k + (M.length - (k + 1)) := ⟨_, rfl⟩
            rw [← hmm] at HB9 HLN HLE ⊢
            have HMM := Aside0.mk hmm
            clear hmm u3 u4 u5 u6 u7 u8 u9
            go_wp2_with fail
            go_at_call 9
            first
              | ((with_reducible refine (HLN.out (Below.refl _ _)).mono ?_); have HBE := Aside0.mk (HB9.out (Below.refl _ _)))
              | ((with_reducible refine (HLN.out (bel_drew (Below.refl _ _))).mono ?_); have HBE := Aside0.mk (HB9.out (bel_drew (Below.refl _ _))))
            rintro e w10 ⟨rfl, rfl⟩
            go_wp2_with fail
            go_roundg (n0 - (i + 1))
            case measure => have := hk.out; omega
            case rel => exact ⟨i + 1, by go_num, by omega, ⟨rfl⟩, ⟨⟨_, HBE.out, fun q hq => by
              rcases List.mem_append.1 hq with hq | hq
              · exact HO'.out q (List.mem_of_mem_take hq)
              · exact HO'.out q (List.mem_of_mem_drop hq), by rw [HLE.out]; have := HMM.out; have := HM'.out; omega⟩⟩⟩
        · --take
          go_wp2_with fail
          go_at_call 8
          have hM512 : M.length < 512 := by omega
          refine (take_both HB'.out hM512 hz2 pl).mono ?_
          rintro e w5 ⟨p5, v5, hp5, rfl, hr5_, hB5⟩
          rw [← HKP.out] at hp5 hB5
          have hp51 : p5.2.length = 1 := HO'.out p5 (List.mem_of_getElem? hp5)
          obtain ⟨gx, cx, curx, rfl, hcb, hcx⟩ := hr5_.blk (by rw [hp51]; exact Nat.zero_lt_one)
          clear hcb
          rw [hp51]
          have HP5 := Aside0.mk hp5
          have HB5 := Aside0.mk hB5
          have HCX := Aside0.mk hcx
          clear hB5 hp5 hcx hr5_ hx0 hx1 HB' K2 K3 K6 hM512 hp51
          obtain ⟨p51, p52⟩ := p5
          dsimp only at HCX ⊢
          obtain ⟨wo, hwo⟩ : ∃ wo, wo = w5 := ⟨_, rfl⟩
          rw [← hwo] at HB5 HCX
          go_wp2_with fail
          obtain ⟨gy, hgy⟩ : ∃ gy, gy = w5.heap.size := ⟨_, rfl⟩
          have hyb : (w5.alloc (.cells #[.int .u8 p51, .slice (some ⟨gx, 0, none⟩) 1 cx] 32)).heap[gy]? = some (.cells #[.int .u8 p51, .slice (some ⟨gx, 0, none⟩) 1 cx] 32 (0, 0)) := by rw [hgy]; exact blk_new _ _
          have HBW : Aside0 (Below w5.heap.size wo (w5.alloc (.cells #[.int .u8 p51, .slice (some ⟨gx, 0, none⟩) 1 cx] 32))) := ⟨by rw [hwo]; exact below_alloc (Below.refl _ _) _⟩
          rw [← hgy]
          obtain ⟨wy, hwy⟩ : ∃ wy, wy = w5.alloc (.cells #[.int .u8 p51, .slice (some ⟨gx, 0, none⟩) 1 cx] 32) := ⟨_, rfl⟩
          rw [← hwy] at HBW hyb ⊢
          rw [← hwo] at HBW
          clear hwy hgy hwo
          clear w5
          obtain ⟨w5, rfl⟩ : ∃ w5, w5 = wy := ⟨_, rfl⟩
          obtain ⟨hc0, hc1, hcf⟩ := cells2 hyb
          have HB5 : Aside0 (Both w w5 c (.slice A6 M.length cap6) _ M) := ⟨HB5.out.belowed HBW.out⟩
          obtain ⟨lv5, L5, L25, k1, k2, k3, k4, k5, k6⟩ := HB5.out.ex
          have hlen5 := len_bare k6
          rw [hlen5] at k2
          obtain ⟨gl, cl, eA, hgl0, hgl1, hcl⟩ := k2.cells hz2
          injection eA with eA1 _ eA2
          subst eA1 eA2
          obtain ⟨p, hp⟩ : ∃ p, M[k]? = some p := ⟨_, List.getElem?_eq_getElem hkl2⟩
          have hp1 := HO'.out p (List.mem_of_getElem? hp)
          obtain ⟨pv, hlk, hpr, hpo⟩ := let_at k3 k6 hp
          obtain ⟨fl0, fl1⟩ := flat_at hlk
          have y0 := hcl _ _ fl0
          have y1 := hcl _ _ fl1
          dsimp only at y0 y1
          have hcap : M.length ≤ cap6 := by
            obtain ⟨_, (⟨hq, _⟩ | ⟨g', cap', cur, hq, h2, h3, h4, h5⟩)⟩ := k2
            · cases hq
            · injection hq with _ _ hq; omega
          have HK1 := Aside0.mk k2
          have HK3 := Aside0.mk k3
          have HK6 := Aside0.mk k6
          have HL5 := Aside0.mk hlen5
          have HPP := Aside0.mk hp
          have HP1 := Aside0.mk hp1
          have HPO := Aside0.mk hpo
          have HPR := Aside0.mk hpr
          have HLK := Aside0.mk hlk
          have HONE := Aside0.mk (flat_one k3)
          have HCL : Aside0 (∀ {W : World}, Below w5.heap.size w5 W → ∀ j u, (flat L25)[j]? = some u → W.cell? ⟨gl, j, none⟩ = some u) := ⟨fun hB j u hj => by
            have := hcl j u hj
            rw [hB.cell (World.block_lt_of_cell? w5 _ this)]
            exact this⟩
          have HBS : Aside0 (w.heap.size ≤ w5.heap.size) := ⟨HB5.out.below.size⟩
          have HY0 := Aside0.mk y0
          have HY1 := Aside0.mk y1
          obtain ⟨pt, pb⟩ := p
          obtain ⟨i0, hif, hz0_, hz1_, hz2_⟩ := info_parts info32
          have HI1 := Aside0.mk hif
          have HI2 := Aside0.mk hz0_
          have HI3 := Aside0.mk hz1_
          have HI4 := Aside0.mk hz2_
          clear hif hz0_ hz1_ hz2_ k1 k2 k3 k4 k5 k6 hlen5 hp hp1 hpo hpr hlk hcl
          obtain ⟨rfl, rfl⟩ : pt = p51 ∧ pb = p52 := by have := Option.some.inj (HPP.out.symm.trans HP5.out); injection this with h1 h2; exact ⟨h1, h2⟩
          have hP1 : pb.length = 1 := HP1.out
          obtain ⟨gp, cp, curp, hpe, hcb, hcp⟩ := HPR.out.blk (by dsimp only; rw [hP1]; exact Nat.zero_lt_one)
          dsimp only at hpe
          rw [hP1] at hpe
          subst hpe
          have hcv1 : ∀ nq, (convert 30 9 (.slice (some ⟨gx, 0, none⟩) 1 cx)).run Try.prog (w5.drewN nq) = .ok (.string (strOfNums pb)) (w5.drewN nq) := fun nq => conv_row hP1 (fun j v hj => by
            have := HCX.out j v hj
            rw [add_plain, (pw_below_drewN2 HBW.out nq).cell (World.block_lt_of_cell? _ _ this)]
            exact this)
          have hcv2 : ∀ nq, (convert 30 9 (.slice (some ⟨gp, 0, none⟩) 1 cp)).run Try.prog (w5.drewN nq) = .ok (.string (strOfNums pb)) (w5.drewN nq) := fun nq => conv_row hP1 (fun j v hj => by
            have := hcp j v hj
            rw [add_plain, (pw_below_drewN2 (Below.refl _ w5) nq).cell (World.block_lt_of_cell? _ _ this)]
            exact this)
          have hcv10 := hcv1 0
          have hcv20 := hcv2 0
          clear hcp hP1 hcb
          go_quiet (fail)
          obtain ⟨wd, hwd⟩ : ∃ wd, wd = w5.drewN nq := ⟨_, rfl⟩
          rw [← hwd]
          have HBD : Aside0 (Below w5.heap.size w5 wd) := ⟨by rw [hwd]; exact pw_below_drewN2 (Below.refl _ _) nq⟩
          clear hwd hcv1 hcv2 hcv10 hcv20 hc0 hc1 hcf hyb
          have hgw : gl < w5.heap.size := hgl1
          have u3 : (k : Int) ≤ cap6 := by omega
          have u4 : (k : Int) + 1 ≤ M.length := by omega
          have u5 : (M.length : Int) ≤ cap6 := by omega
          have u6 : ((k : Int) + 1).toNat = k + 1 := by omega
          have u7 : IntKind.i64.wrap ((k : Int) + 1) = ((k + 1 : Nat) : Int) := by rw [IntKind.wrap_i64]; omega
          have u8 : ((k + 1 : Nat) : Int) ≤ M.length := by omega
          have u9 : 0 ≤ (k : Int) + 1 := by omega
          obtain ⟨ad, had, had2⟩ : ∃ ad : Addr, (if cap6 = k + 1 then some (⟨gl, 0, none⟩ : Addr) else some ⟨gl, (k + 1) * 2, none⟩) = some ad ∧ (k + 1 < M.length → ad = ⟨gl, (k + 1) * 2, none⟩) := by
            by_cases h : cap6 = k + 1
            · exact ⟨_, if_pos h, fun h2 => by omega⟩
            · exact ⟨_, if_neg h, fun _ => rfl⟩
          have HD1 : Aside0 (Below w5.heap.size w5 wd.drew) := ⟨bel_drew HBD.out⟩
          have HTK : Aside0 (∀ {W : World}, Below w5.heap.size w5 W → ∀ j u, (flat (L25.take k))[j]? = some u → W.cell? ((⟨gl, 0, none⟩ : Addr).add j) = some u) := ⟨fun hB j u hj => by rw [add_plain]; exact HCL.out hB j u (flat_take L25 k j u hj)⟩
          have HDR : Aside0 (∀ {W : World}, Below w5.heap.size w5 W → ∀ j u, (flat (L25.drop (k + 1)))[j]? = some u → W.cell? (ad.add j) = some u) := ⟨fun hB j u hj => by
            have hk1 : k + 1 < M.length := by
              by_cases h : k + 1 < M.length
              · exact h
              · rw [List.drop_eq_nil_of_le (by rw [HL5.out]; omega)] at hj; simp [flat] at hj
            rw [had2 hk1, show (⟨gl, (k + 1) * 2, none⟩ : Addr).add j = ⟨gl, (k + 1) * 2 + j, none⟩ by simp [Addr.add]]
            exact HCL.out hB _ u (flat_drop L25 (k + 1) (by rw [HL5.out]; omega) j u hj)⟩
          clear had2
          have HO1 : Aside0 (∀ u ∈ flat (L25.take k), u.oneCell' = true) := ⟨flat_one (fun q hq => HK3.out q (List.mem_of_mem_take hq))⟩
          have HO2 : Aside0 (∀ u ∈ flat (L25.drop (k + 1)), u.oneCell' = true) := ⟨flat_one (fun q hq => HK3.out q (List.mem_of_mem_drop hq))⟩
          have HF1 : Aside0 ((flat (L25.take k)).length = k * 2) := ⟨by rw [flat_len, List.length_take, HL5.out, Nat.min_eq_left (by omega)]⟩
          have HF2 : Aside0 ((flat (L25.drop (k + 1))).length = (M.length - (k + 1)) * 2) := ⟨by rw [flat_len, List.length_drop, HL5.out]⟩
          have HM1 : Aside0 (0 + k ≤ maxLen) := ⟨by unfold maxLen; omega⟩
          have HM2 : Aside0 ((0 + k) * 32 ≤ 140737488355328) := ⟨by omega⟩
          have HM3 : Aside0 (k + (M.length - (k + 1)) ≤ maxLen) := ⟨by unfold maxLen; omega⟩
          have HM4 : Aside0 ((k + (M.length - (k + 1))) * 32 ≤ 140737488355328) := ⟨by omega⟩
          clear y0 y1
          go_upto_region 22 with fail
          go_region_law (first
            | (refine step_append_p rfl (.const (.slice none 0 0)) (.tmp 119) 25 rfl w.heap.size 32 i0 _ 2 32 Try.underlying25 HI1.out HI2.out HI3.out HI4.out rfl Nat.zero_lt_two (.slice none 0 0) 0 [] rfl (rowP_nil _ _ _ _) ⟨gl, 0, none⟩ k cap6 (flat (L25.take k)) ?he1T HF1.out (HTK.out HD1.out) HO1.out HM1.out HM2.out (Nat.le_trans HBS.out HD1.out.size) ?hk1T
               case he1T => kernel_rfl
               intro v1 w1 hrow1 hfr1 hat1
               rw [Nat.zero_add, List.nil_append] at hrow1
               obtain ⟨A1, c1, rfl⟩ := hrow1.form
               have hb1 : Below w5.heap.size w5 w1 := HD1.out.trans ((hfr1.below (Nat.le_refl _) (fun i hi => absurd hi (nil_block i))).mono HD1.out.size)
               have HBB : Aside0 (w.heap.size ≤ w1.heap.size) := ⟨Nat.le_trans HBS.out hb1.size⟩)
            | (refine step_append_p rfl (.tmp 120) (.tmp 124) 25 rfl w.heap.size 32 i0 _ 2 32 Try.underlying25 HI1.out HI2.out HI3.out HI4.out rfl Nat.zero_lt_two (.slice A1 k c1) k (flat (L25.take k)) ?he2T hrow1 ad (M.length - (k + 1)) (cap6 - (k + 1)) (flat (L25.drop (k + 1))) ?he3T HF2.out (HDR.out hb1) HO2.out HM3.out HM4.out HBB.out ?hk2T
               case he2T => kernel_rfl
               case he3T => kernel_rfl
               intro v2 w2 hrow2 hfr2 hat2
               obtain ⟨A2, c2, rfl⟩ := hrow2.form))
          all_goals
            have HB9 : Aside0 (∀ {Y : World}, Below w2.heap.size w2 Y → Both w Y c (.slice A2 (k + (M.length - (k + 1))) c2) (M.take k ++ M.drop (k + 1)) (M.take k ++ M.drop (k + 1))) := ⟨fun hY => by
              have h := two_appends (L2' := L25.take k ++ L25.drop (k + 1)) HB5.out HD1.out hfr1 hat1 (Below.refl _ _) hfr2 hat2 hY (by rw [flat_app, List.length_append, List.length_take, List.length_drop, HL5.out, Nat.min_eq_left (by omega)]; exact hrow2) (fun q hq => by
                rcases List.mem_append.1 hq with hq | hq
                · exact HK3.out q (List.mem_of_mem_take hq)
                · exact HK3.out q (List.mem_of_mem_drop hq))
              rw [List.map_append, List.map_take, List.map_drop, HK6.out] at h
              exact h⟩
            have HLE : Aside0 ((M.take k ++ M.drop (k + 1)).length = k + (M.length - (k + 1))) := ⟨by rw [List.length_append, List.length_take, List.length_drop, Nat.min_eq_left (by omega)]⟩
            have HLN : Aside0 (∀ {Y : World}, Below w2.heap.size w2 Y → Calls Try.prog 9 #[.pointer (some ⟨c, 0, none⟩)] Y fun e w' => e = .returned (.int .i64 ((k + (M.length - (k + 1)) : Nat) : Int)) ∧ w' = Y) := ⟨fun hY => by
              have h := len_both (HB9.out hY)
              rw [HLE.out] at h
              exact h⟩
            clear hrow1 hfr1 hat1 hb1 hrow2 hfr2 hat2 HBB HD1 HTK HDR HCL HO1 HO2 HF1 HF2
            obtain ⟨mm, hmm⟩ : ∃ mm, mm = k + (M.length - (k + 1)) := ⟨_, rfl⟩
            rw [← hmm] at HB9 HLN HLE ⊢
            have HMM := Aside0.mk hmm
            clear hmm u3 u4 u5 u6 u7 u8 u9
            go_wp2_with fail
            go_at_call 9
            first
              | ((with_reducible refine (HLN.out (Below.refl _ _)).mono ?_); have HBE := Aside0.mk (HB9.out (Below.refl _ _)))
              | ((with_reducible refine (HLN.out (bel_drew (Below.refl _ _))).mono ?_); have HBE := Aside0.mk (HB9.out (bel_drew (Below.refl _ _))))
            rintro e w10 ⟨rfl, rfl⟩
            go_wp2_with fail
            go_roundg (n0 - (i + 1))
            case measure => have := hk.out; omega
            case rel => exact ⟨i + 1, by go_num, by omega, ⟨rfl⟩, ⟨⟨_, HBE.out, fun q hq => by
              rcases List.mem_append.1 hq with hq | hq
              · exact HO'.out q (List.mem_of_mem_take hq)
              · exact HO'.out q (List.mem_of_mem_drop hq), by rw [HLE.out]; have := HMM.out; have := HM'.out; omega⟩⟩⟩
    · obtain rfl : i = n0 := by omega
      have HBL := Aside0.mk HB.below
      go_wp2_with fail
      go_ret
      exact ⟨rfl, HBL.out⟩
theorem plays_all (A0 A1 : Option Addr) (n0 n1 c0 c1 : Nat) (z0 z1 : List Int) (w : World) (r0 : RowIn .u8 w A0 n0 z0) (r1 : RowIn .i64 w A1 n1 z1) :
    Calls Try.prog 4 #[.slice A0 n0 c0, .slice A1 n1 c1] w fun e w' => e = .returned (.bool true) ∧ Below w.heap.size w w' := by
  by_cases h : 80 < n0 ∨ n1 < n0
  · exact plays_not A0 A1 n0 n1 c0 c1 w h
  · exact plays_any A0 A1 n0 n1 c0 c1 z0 z1 w (by omega) (by omega) r0 r1
end Go.Proofs.Ytpmlbomkjegkgaa
