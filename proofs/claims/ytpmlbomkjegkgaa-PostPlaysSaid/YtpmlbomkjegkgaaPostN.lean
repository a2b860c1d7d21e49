/- PostMost. -/
import Derived.Test.YtpmlbomkjegkgaaPostM
import Derived.Test.YtpmlbomkjegkgaaPostF
import Derived.Outline
import Derived.LoopTactic
import Derived.DataShut
namespace Go.Proofs.Ytpmlbomkjegkgaa
open Go.RowKit Go.Proofs.YtpmlbomkjegkgaaW.PrintWords
set_option linter.unusedVariables false
def bts (m : Nat) : List Int := [((m % 256 : Nat) : Int), ((m / 256 : Nat) : Int)]
/-- i were sent; the last min i 512 are there. -/
structure Sent (w0 w : World) (c i : Nat) : Prop where
  ex : ∃ lv L, IsPost w c c lv L ∧ L.length = min i 512 ∧ ∀ j, j < L.length → ∃ v, L[j]? = some (0, v, bts (i - L.length + j))
  below : Below w0.heap.size w0 w
  hc : w0.heap.size ≤ c
theorem sent_step {w0 w : World} {c i : Nat} (h : Sent w0 w c i) (hi : i < 100000) (g : Nat) (cap : Nat) (o : Obj) (hg : g = w.heap.size) (ho : ∀ j u, ((bts i).map (Value.int .u8))[j]? = some u → (w.alloc o).cell? ((⟨g, 0, none⟩ : Addr).add j) = some u) :
    Calls Try.prog 7 #[.pointer (some ⟨c, 0, none⟩), .int .u8 0, .slice (some ⟨g, 0, none⟩) 2 cap] (w.alloc o) fun e w' => e = .returned (.tuple #[]) ∧ Sent w0 w' c (i + 1) := by
  obtain ⟨⟨lv, L, P, hL, hj⟩, hb, hc⟩ := h
  have P' : IsPost (w.alloc o) c c lv L := P.below (below_alloc (Below.refl _ _) _)
  have hb' : Below w0.heap.size w0 (w.alloc o) := below_alloc hb _
  have hcs : c ≤ (w.alloc o).heap.size := Nat.le_of_lt (blk_lt P'.blk)
  by_cases h : i < 512
  · refine (send_any c 2 cap c 0 lv L (bts i) ⟨g, 0, none⟩ _ P' (by omega) hcs rfl (by decide) ho).mono ?_
    rintro e w' ⟨rfl, lv', v', Q, F, _, _⟩
    refine ⟨rfl, ⟨lv', _, Q, by rw [List.length_append, hL]; simp; omega, fun j hjl => ?_⟩, hb'.trans ((P'.block hcs F).mono hc), hc⟩
    rw [List.length_append] at hjl ⊢
    simp only [List.length_cons, List.length_nil] at hjl ⊢
    by_cases hjL : j < L.length
    · obtain ⟨v, hv⟩ := hj j hjL
      exact ⟨v, by rw [List.getElem?_append_left hjL, hv, show i - L.length + j = i + 1 - (L.length + (0 + 1)) + j by omega]⟩
    · have e : j = L.length := by omega
      subst e
      exact ⟨v', by rw [List.getElem?_append_right (Nat.le_refl _)]; simp; rw [show i - L.length + L.length = i by omega]⟩
  · have hL5 : L.length = 512 := by omega
    refine (send_full c 2 cap c 0 lv L (bts i) ⟨g, 0, none⟩ _ P' hL5 hcs rfl (by decide) ho).mono ?_
    rintro e w' ⟨rfl, lv', v', Q, F, _, _⟩
    refine ⟨rfl, ⟨lv', _, Q, by rw [List.length_drop, List.length_append, hL]; simp; omega, fun j hjl => ?_⟩, hb'.trans ((P'.block hcs F).mono hc), hc⟩
    rw [List.length_drop, List.length_append] at hjl ⊢
    simp only [List.length_cons, List.length_nil] at hjl ⊢
    rw [List.getElem?_drop]
    by_cases hjL : 1 + j < L.length
    · obtain ⟨v, hv⟩ := hj (1 + j) hjL
      exact ⟨v, by rw [List.getElem?_append_left hjL, hv, show i - L.length + (1 + j) = i + 1 - (L.length + (0 + 1) - 1) + j by omega]⟩
    · have e : 1 + j = L.length := by omega
      exact ⟨v', by rw [e, List.getElem?_append_right (Nat.le_refl _)]; simp; rw [show i + 1 - L.length + j = i by omega]⟩
set_option maxHeartbeats 4000000 in
theorem most_any (n : Int) (w : World) (hn : (Lit.int .u16 n).wf = true) : Calls Try.prog 3 #[.int .u16 n] w fun e w' => e = .returned (.bool true) ∧ Below w.heap.size w w' := by
  have hn0 : 0 ≤ n ∧ n ≤ 65535 := by
    have := (Lit.wf_int_iff _ _).1 hn
    have h1 : IntKind.u16.min = 0 := by decide
    have h2 : IntKind.u16.max = 65535 := by decide
    rw [h1, h2] at this
    exact this
  obtain ⟨k, hk⟩ : ∃ k : Nat, (k : Int) = 480 + n % 80 := ⟨(480 + n % 80).toNat, by omega⟩
  have hk1 : 480 ≤ k ∧ k < 560 := by omega
  go_enter Try.func3, Try.ntmps3
  go_wp2_with fail
  go_at_call 6
  refine (awake_any _).mono ?_
  rintro e w1 ⟨rfl, hB1⟩
  have HB1 := Aside0.mk hB1
  clear hB1
  go_wp2_with fail
  obtain ⟨c, hc0⟩ : ∃ c, c = w1.heap.size := ⟨_, rfl⟩
  have hS : Sent w (w1.alloc (.cells #[.slice none 0 0] 27)) c 0 := ⟨⟨_, [], new_post (by rw [hc0]; exact blk_new _ _) (Nat.le_refl _), by simp, fun j hj => by simp at hj⟩, below_alloc HB1.out _, by rw [hc0]; exact HB1.out.size⟩
  have HS := Aside0.mk hS
  have HK := Aside0.mk hk1
  rw [← hc0, ← hk]
  clear hS hk hn0 hc0
  go_loopg [5] k (fun kq v5 wr => ∃ i : Nat, v5 = .int .i64 i ∧ i ≤ k ∧ Aside0 (kq = k - i) ∧ Aside0 (Sent w wr c i))
  case atStart => exact ⟨0, rfl, Nat.zero_le _, ⟨rfl⟩, HS⟩
  case round =>
    obtain ⟨i, rfl, hi2, hkk, HI⟩ := hrel
    have hi560 : i < 560 := by omega
    by_cases hlt : i < k
    · have hlt' : (i : Int) < k := by omega
      go_wp2_with fail
      go_at_call 7
      refine (sent_step HI.out (by omega) wr.heap.size 2 (.cells #[.int .u8 ((i : Int) % 256), .int .u8 ((i : Int) / 256)] 5) rfl (fun j u hj => ?_)).mono ?_
      · match j, hj with
        | 0, hj => simp [bts] at hj; subst hj; simp [Addr.add]
        | 1, hj => simp [bts] at hj; subst hj; simp [Addr.add]
      rintro e w5 ⟨rfl, H5⟩
      have HH5 := Aside0.mk H5
      clear H5
      go_wp2_with fail
      go_roundg (k - (i + 1))
      case measure => have := hkk.out; omega
      case rel => exact ⟨i + 1, by go_num, by omega, ⟨rfl⟩, HH5⟩
    · obtain rfl : i = k := by omega
      obtain ⟨lv, L, P, hL, hj⟩ := HI.out.ex
      have h480 := HK.out.1
      obtain ⟨v0, hv0⟩ := hj 0 (by omega)
      obtain ⟨d, hd⟩ : ∃ d, d = i - L.length + 0 := ⟨_, rfl⟩
      rw [← hd] at hv0
      have hd2 : d < 48 ∧ (512 < i → d + 512 = i) ∧ (¬ 512 < i → d = 0) := by have := HK.out.2; omega
      have hcs : c ≤ wr.heap.size := Nat.le_of_lt (blk_lt P.blk)
      have TAKE : ∀ {N : Nat}, N = L.length → Calls Try.prog 8 #[.pointer (some ⟨c, 0, none⟩), .int .i64 0] wr fun e w' => ∃ g cap A c8, e = .returned (.tuple #[.agg #[.int .u8 0, .slice (some ⟨g, 0, none⟩) 2 cap], .int .i64 0]) ∧ w'.cell? ⟨g, 0, none⟩ = some (.int .u8 d) ∧ w'.cell? ⟨g, 1, none⟩ = some (.int .u8 0) ∧ w'.heap[c]? = some (.cells #[.slice A (N - 1) c8] 27 (0, 0)) ∧ Below w.heap.size w w' := by
        rintro N rfl
        refine (take_any c c 0 lv L wr P (by omega) (by omega) hcs).mono ?_
        rintro e w' ⟨k2, p, hk2, hkp, rfl, lv', Q, F, _⟩
        have hk0 : k2 = 0 := by
          have h1 : (Int.tmod 0 (L.length : Int) + L.length).tmod L.length = 0 := by simp
          rw [h1] at hk2; omega
        subst hk0
        rw [hv0] at hkp
        injection hkp with hkp
        subst hkp
        have hr := P.kept2 (List.mem_of_getElem? hv0) F
        obtain ⟨g, cap, cur, hv, _, hcl⟩ := hr.blk (by simp [bts])
        dsimp only at hv hcl
        subst hv
        obtain ⟨A, c8, h8⟩ := Q.row.form
        have hb := Q.blk
        rw [h8] at hb
        rw [show (L.take 0 ++ L.drop (0 + 1)).length = L.length - 1 by simp] at hb
        refine ⟨g, cap, A, c8, rfl, hcl 0 _ (by simp [bts]; omega), hcl 1 _ (by simp [bts]; omega), hb, HI.out.below.trans ((P.block hcs F).mono HI.out.hc)⟩
      have HT := Aside0.mk @TAKE
      have HLL := Aside0.mk hL
      have HD2 := Aside0.mk hd2
      clear TAKE hd hv0 hj P hcs hd2 hL
      by_cases h512 : 512 < i
      · have h512' : (512 : Int) < i := by omega
        go_wp2_with fail
        go_at_call 8
        refine (HT.out (N := 512) (by have := HLL.out; omega)).mono ?_
        rintro e w6 ⟨g, cap, A, c8, rfl, x0, x1, hb, hB⟩
        have HB := Aside0.mk hB
        have X0 := Aside0.mk x0
        have X1 := Aside0.mk x1
        have HBB := Aside0.mk hb
        clear hB hb x0 x1
        go_wp2_with fail
        obtain ⟨W7, hW7⟩ : ∃ W7, W7 = w6.alloc (.cells #[.int .u8 0, .slice (some ⟨g, 0, none⟩) 2 cap] 32) := ⟨_, rfl⟩
        have hy : W7.heap[w6.heap.size]? = some (.cells #[.int .u8 0, .slice (some ⟨g, 0, none⟩) 2 cap] 32 (0, 0)) := by rw [hW7]; exact blk_new _ _
        have B67 : Below w6.heap.size w6 W7 := by rw [hW7]; exact below_alloc (Below.refl _ _) _
        have hb7 := blk_below HBB.out B67
        have y0 : W7.cell? ⟨g, 0, none⟩ = some (.int .u8 d) := by rw [B67.cell (World.block_lt_of_cell? w6 _ X0.out)]; exact X0.out
        have y1 : W7.cell? ⟨g, 1, none⟩ = some (.int .u8 0) := by rw [B67.cell (World.block_lt_of_cell? w6 _ X1.out)]; exact X1.out
        have HB7 : Aside0 (Below w.heap.size w W7) := ⟨HB.out.trans (B67.mono HB.out.size)⟩
        rw [← hW7]
        obtain ⟨gy, hgy⟩ : ∃ gy, gy = w6.heap.size := ⟨_, rfl⟩
        rw [← hgy] at hy ⊢
        clear hW7 B67 hgy
        obtain ⟨hy0, hy1, hyf⟩ := cells2 hy
        have HLEN : Aside0 (∀ nq, Calls Try.prog 9 #[.pointer (some ⟨c, 0, none⟩)] (W7.drewN nq) fun e w' => e = .returned (.int .i64 ((512 - 1 : Nat) : Int)) ∧ w' = W7.drewN nq) := ⟨fun nq => len_any c _ c8 A _ hb7⟩
        have hdi : (d : Int) + 512 = i := by have := HD2.out; omega
        have hd256 : (d : Int) < 256 := by have := HD2.out; omega
        go_quiet ((go_at_call 9; exact Calls.quiet_of_same (HLEN.out _)))
        have hfin : ((d : Int) == (i : Int) - 512) = true := by simp; omega
        go_wp2
        go_ret
        exact ⟨congrArg (fun b => Ending.returned (.bool b)) hfin, pw_below_drewN2 HB7.out _⟩
      · have h512' : ¬ (512 : Int) < i := by omega
        have hi1 : (1 : Int) ≤ i := by omega
        go_wp2_with fail
        go_at_call 8
        refine (HT.out (N := i) (by have := HLL.out; omega)).mono ?_
        rintro e w6 ⟨g, cap, A, c8, rfl, x0, x1, hb, hB⟩
        have HB := Aside0.mk hB
        have X0 := Aside0.mk x0
        have X1 := Aside0.mk x1
        have HBB := Aside0.mk hb
        clear hB hb x0 x1
        go_wp2_with fail
        obtain ⟨W7, hW7⟩ : ∃ W7, W7 = w6.alloc (.cells #[.int .u8 0, .slice (some ⟨g, 0, none⟩) 2 cap] 32) := ⟨_, rfl⟩
        have hy : W7.heap[w6.heap.size]? = some (.cells #[.int .u8 0, .slice (some ⟨g, 0, none⟩) 2 cap] 32 (0, 0)) := by rw [hW7]; exact blk_new _ _
        have B67 : Below w6.heap.size w6 W7 := by rw [hW7]; exact below_alloc (Below.refl _ _) _
        have hb7 := blk_below HBB.out B67
        have y0 : W7.cell? ⟨g, 0, none⟩ = some (.int .u8 d) := by rw [B67.cell (World.block_lt_of_cell? w6 _ X0.out)]; exact X0.out
        have y1 : W7.cell? ⟨g, 1, none⟩ = some (.int .u8 0) := by rw [B67.cell (World.block_lt_of_cell? w6 _ X1.out)]; exact X1.out
        have HB7 : Aside0 (Below w.heap.size w W7) := ⟨HB.out.trans (B67.mono HB.out.size)⟩
        rw [← hW7]
        obtain ⟨gy, hgy⟩ : ∃ gy, gy = w6.heap.size := ⟨_, rfl⟩
        rw [← hgy] at hy ⊢
        clear hW7 B67 hgy
        obtain ⟨hy0, hy1, hyf⟩ := cells2 hy
        have HLEN : Aside0 (∀ nq, Calls Try.prog 9 #[.pointer (some ⟨c, 0, none⟩)] (W7.drewN nq) fun e w' => e = .returned (.int .i64 ((i : Int) - 1)) ∧ w' = W7.drewN nq) := ⟨fun nq => by rw [show ((i : Int) - 1) = ((i - 1 : Nat) : Int) by omega]; exact len_any c _ c8 A _ hb7⟩
        have hdi : (d : Int) = 0 := by have := HD2.out; omega
        have hd256 : (d : Int) < 256 := by have := HD2.out; omega
        go_quiet ((go_at_call 9; exact Calls.quiet_of_same (HLEN.out _)))
        go_wp2
        go_ret
        refine ⟨?_, pw_below_drewN2 HB7.out _⟩
        first | rfl | simp [hdi] | trace_state
end Go.Proofs.Ytpmlbomkjegkgaa
