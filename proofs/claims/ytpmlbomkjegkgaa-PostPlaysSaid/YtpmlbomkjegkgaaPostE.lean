/- Double, Lose, and the law's awake. -/
import Derived.Test.YtpmlbomkjegkgaaPostD
import Derived.Lib.SlBytesConst
namespace Go.Proofs.Ytpmlbomkjegkgaa
open Go.RowKit Go.Proofs.YtpmlbomkjegkgaaW.PrintWords
set_option linter.unusedVariables false

theorem lose_nil (i : Int) (w : World) : Calls Try.prog 11 #[.pointer none, .int .i64 i] w fun e w' => e = .returned (.int .i64 2) ∧ Below w.heap.size w w' := by
  go_enter Try.func11, Try.ntmps11
  go_wp2_with fail
  go_at_call 8
  refine (take_nil i _).mono ?_
  rintro e w1 ⟨rfl, HB⟩
  go_wp2
  go_ret
  exact ⟨rfl, below_alloc HB _⟩
theorem double_nil (i : Int) (w : World) : Calls Try.prog 10 #[.pointer none, .int .i64 i] w fun e w' => e = .returned (.int .i64 2) ∧ Below w.heap.size w w' := by
  go_enter Try.func10, Try.ntmps10
  go_wp2_with fail
  go_at_call 12
  refine (place_nil i _).mono ?_
  rintro e w1 ⟨rfl, rfl⟩
  go_wp2
  go_ret
  exact ⟨rfl, Below.refl _ _⟩
theorem send_nil (t : Int) (v : Value) (w : World) : Calls Try.prog 7 #[.pointer none, .int .u8 t, v] w fun e w' => e = .returned (.tuple #[]) ∧ w' = w := by
  go_enter Try.func7, Try.ntmps7
  go_wp2
  refine bodyPost_ret (results_none rfl _ _ _) rfl ?_
  exact ⟨rfl, rfl⟩
set_option maxHeartbeats 4000000 in
theorem double_any (c base : Nat) (i : Int) (lv : Value) (L : List Let) (w : World) (H : IsPost w base c lv L) (hL : L.length < 512) (hp : 0 < L.length) (hbase : base ≤ w.heap.size) (hpos : ∀ p ∈ L, 0 < p.2.2.length ∧ p.2.2.length < 100000000) :
    Calls Try.prog 10 #[.pointer (some ⟨c, 0, none⟩), .int .i64 i] w fun e w' => e = .returned (.int .i64 0) ∧ ∃ (k : Nat) (p : Let), (k : Int) = (i.tmod L.length + L.length).tmod L.length ∧ L[k]? = some p ∧ ∃ lv' v', IsPost w' base c lv' (L ++ [(p.1, v', p.2.2)]) ∧ Fr w w' (fun i => i = c ∨ some i = lv.ownBlock) ∧
      (∀ k, some k = lv'.ownBlock → some k = lv.ownBlock ∨ w.heap.size ≤ k) ∧ (∀ k, some k = v'.ownBlock → w.heap.size ≤ k) := by
  have HI := Aside0.mk H
  obtain ⟨hb, hrow, hlet, hlo⟩ := H
  obtain ⟨A, cap, rfl⟩ := hrow.form
  go_enter Try.func10, Try.ntmps10
  go_wp2_with fail
  go_at_call 12
  refine (place_at c L.length cap A i _ hb hp (by omega)).mono ?_
  rintro e w1 ⟨k, rfl, hk, hki, rfl⟩
  obtain ⟨p, hkp⟩ : ∃ p, L[k]? = some p := ⟨_, List.getElem?_eq_getElem hk⟩
  obtain ⟨pt, pv, pb⟩ := p
  have hm := List.mem_of_getElem? hkp
  have hr1 := hlet _ hm
  have hp1 := hpos _ hm
  obtain ⟨g1, cap1, hv1, _, _, hcell⟩ := hr1.cells (by exact hp1.1)
  dsimp only at hv1 hcell hp1
  subst hv1
  obtain ⟨f0, f1⟩ := flat_at hkp
  dsimp only at f0 f1
  obtain ⟨g, cap', hA, hg0, hg1, hcl⟩ := hrow.cells hp
  injection hA with hA _ hcap
  subst hA hcap
  have x0 := hcl _ _ f0
  have x1 := hcl _ _ f1
  obtain ⟨hc, hf⟩ := cell1 hb
  have k1 : (k : Int) < L.length := by omega
  have k2 : ¬ (k : Int) < 0 := by omega
  have HC := Aside0.mk hcell
  have HP := Aside0.mk hki
  have HLT := Aside0.mk hlet
  have HROW := Aside0.mk hrow
  have HP1 := Aside0.mk hp1
  have HPOS := Aside0.mk hpos
  clear hcl hcell hki hlet hrow hp1 hpos hr1
  go_wp2_with fail
  refine still_tail_at 17 (by kernel_rfl) (by kernel_rfl) ?_
  intro V eV bV
  have hbV : V.heap[c]? = some (.cells #[.slice (some ⟨g, 0, none⟩) L.length cap] 27 (0, 0)) := by rw [eV]; exact hb
  have hIV : IsPost V base c (.slice (some ⟨g, 0, none⟩) L.length cap) L := ⟨hbV, HI.out.row.of (fun j _ => by rw [eV]), fun q hq => (HI.out.let_ q hq).of (fun j _ => by rw [eV]), HI.out.lo⟩
  have HCV : Aside0 (∀ j u, (pb.map (Value.int .u8))[j]? = some u → V.cell? ⟨g1, j, none⟩ = some u) := ⟨fun j u hj => by have := HC.out j u hj; rw [show V.cell? ⟨g1, j, none⟩ = w1.cell? ⟨g1, j, none⟩ by simp [World.cell?, eV]]; exact this⟩
  have y0 : V.cell? ⟨g, k * 2, none⟩ = some (.int .u8 pt) := by rw [show V.cell? ⟨g, k * 2, none⟩ = w1.cell? ⟨g, k * 2, none⟩ by simp [World.cell?, eV]]; exact x0
  have y1 : V.cell? ⟨g, k * 2 + 1, none⟩ = some (.slice (some ⟨g1, 0, none⟩) pb.length cap1) := by rw [show V.cell? ⟨g, k * 2 + 1, none⟩ = w1.cell? ⟨g, k * 2 + 1, none⟩ by simp [World.cell?, eV]]; exact x1
  have FV : Aside0 (Fr w1 V (fun _ => False)) := ⟨⟨bV.os, bV.tape, bV.output, bV.size, fun i _ _ => by rw [eV]⟩⟩
  have hbase' : base ≤ V.heap.size := by rw [eV]; exact hbase
  have EV := Aside0.mk eV
  have HIV := Aside0.mk hIV
  clear eV bV hIV hc hf x0 x1
  obtain ⟨hc, hf⟩ := cell1 hbV
  simp only [List.take_succ_cons, List.take_zero, List.drop_succ_cons, List.drop_zero]
  repeat still_step
  refine wpStill_nil ?_
  go_wp2_with fail
  go_at_call 7
  refine (send_any c pb.length cap1 base pt _ L pb ⟨g1, 0, none⟩ _ HIV.out hL hbase' rfl HP1.out.2 (fun j u hj => ?_)).mono ?_
  · rw [add_plain]; exact HCV.out j u hj
  rintro e w2 ⟨rfl, lv', v', h1, h2, h3, h4⟩
  have E1 := Aside0.mk h1
  have E2 := Aside0.mk h2
  have E3 := Aside0.mk h3
  have E4 := Aside0.mk h4
  clear h1 h2 h3 h4
  go_wp2
  go_ret
  exact ⟨rfl, k, _, HP.out, hkp, lv', v', E1.out, (FV.out.mono (fun _ h => h.elim)).trans E2.out, fun k hk => by have := E3.out k hk; rw [EV.out] at this; exact this, fun k hk => by have := E4.out k hk; rw [EV.out] at this; exact this⟩
theorem one_new_m (w : World) (x : Value) (t : TypeId) (fz : Nat × Nat) : (w.alloc (.cells #[x] t fz)).cell? ((⟨w.heap.size, 0, none⟩ : Addr).add 0) = some x := by
  have h := blk_new w (.cells #[x] t fz)
  rw [add_plain]
  unfold World.cell?; rw [h]; rfl
theorem new_post {w : World} {c base : Nat} (hb : w.heap[c]? = some (.cells #[.slice none 0 0] 27 (0, 0))) (hlo : base ≤ c) : IsPost w base c (.slice none 0 0) [] :=
  ⟨hb, rowP_nil _ _ _ _, fun p hp => by simp at hp, hlo⟩
set_option maxHeartbeats 4000000 in
theorem awake_any (w : World) : Calls Try.prog 6 #[] w fun e w' => e = .returned (.bool true) ∧ Below w.heap.size w w' := by
  have hcv : (convert 30 30 (.slice (some ⟨w.heap.size + 1, 0, none⟩) 1 1)).run Try.prog ((w.alloc (.cells #[.slice none 0 0] 27)).alloc (.cells #[.int .u8 97] 5)) = .ok (.slice (some ⟨w.heap.size + 1, 0, none⟩) 1 1) ((w.alloc (.cells #[.slice none 0 0] 27)).alloc (.cells #[.int .u8 97] 5 (1, 2))) := by
    have := Go.Lib.run_convert_bytes_const (P := Try.prog) (w.alloc (.cells #[.slice none 0 0] 27)) 30 5 #[.int .u8 97] 1 1 Try.underlying30 Try.underlying5
    simpa using this
  go_enter Try.func6, Try.ntmps6
  go_wp2_with fail
  go_at_call 7
  obtain ⟨c, hc0⟩ : ∃ c, c = w.heap.size := ⟨_, rfl⟩
  obtain ⟨W, hW⟩ : ∃ W, W = (w.alloc (.cells #[.slice none 0 0] 27)).alloc (.cells #[.int .u8 97] 5 (1, 2)) := ⟨_, rfl⟩
  have hP : IsPost W c c (.slice none 0 0) [] := by rw [hW, hc0]; exact new_post (blk_alloc (blk_new _ _) _) (Nat.le_refl _)
  have BW : Below c w W := by rw [hW, hc0]; exact below_alloc (below_alloc (Below.refl _ _) _) _
  have hcb : c ≤ W.heap.size := by rw [hW, hc0]; simp; omega
  have h97 : ∀ j u, ([97].map (Value.int .u8))[j]? = some u → W.cell? ((⟨c + 1, 0, none⟩ : Addr).add j) = some u := by
    intro j u hj
    match j, hj with
    | 0, hj =>
      simp at hj; subst hj; rw [hW, hc0]
      have := one_new_m (w.alloc (.cells #[.slice none 0 0] 27)) (.int .u8 97) 5 (1, 2)
      simpa using this
  rw [← hW, ← hc0]
  have HC := Aside0.mk hc0
  clear hW hcv hc0
  refine (send_any c 1 1 c 1 _ [] [97] ⟨c + 1, 0, none⟩ W hP (by decide) hcb rfl (by decide) h97).mono ?_
  rintro e w1 ⟨rfl, lv1, v1, P1, F1, h1, h1'⟩
  have B1 : Below c w w1 := BW.trans (F1.below hcb (fun i hi => by rcases hi with rfl | hi; exact Nat.le_refl _; simp [Value.ownBlock] at hi) )
  have HP1 := Aside0.mk P1
  have HB1 := Aside0.mk B1
  have HH1 : Aside0 (∀ k, some k = lv1.ownBlock → c ≤ k) := ⟨fun k hk => (P1.row.lt k hk).2⟩
  clear F1 h1 h1' P1 B1 BW hP h97 hcb
  clear W
  go_wp2_with fail
  go_at_call 10
  refine (double_any c c 0 lv1 _ w1 HP1.out (by simp) (by simp) (Nat.le_of_lt (blk_lt HP1.out.blk)) (fun p hp => by simp at hp; subst hp; exact ⟨by simp, by simp⟩)).mono ?_
  rintro e w2 ⟨rfl, k, p, _, _, lv2, v2, P2, F2, h2, _⟩
  have HB2 : Aside0 (Below c w w2) := ⟨HB1.out.trans (F2.below (Nat.le_of_lt (blk_lt HP1.out.blk)) (fun i hi => by rcases hi with rfl | hi; exact Nat.le_refl _; exact HH1.out _ hi))⟩
  obtain ⟨A2, cap2, rfl⟩ := P2.row.form
  have HP2 := Aside0.mk P2
  clear P2 F2 h2
  go_wp2_with fail
  go_at_call 9
  refine (len_any c _ cap2 A2 w2 HP2.out.blk).mono ?_
  rintro e w3 ⟨rfl, rfl⟩
  go_wp2
  go_ret
  exact ⟨rfl, by rw [← HC.out]; exact HB2.out⟩
end Go.Proofs.Ytpmlbomkjegkgaa
