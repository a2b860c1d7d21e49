-- printed by this workplace: wip/patchprint.py over the kit's print
import Derived.Test.YtlfaaogifplgeaaDoorPAx0
import Derived.Test.YtlfaaogifplgeaaDoorPAx5
namespace Go.Proofs.YtlfaaogifplgeaaDoor.PA
open Go.RowKit Go.Proofs.YtlfaaogifplgeaaDoorW.PrintWords Go.Proofs.YtlfaaogifplgeaaDoorW.PrintLast Go.Proofs.YtlfaaogifplgeaaDoorW.PrintMore
attribute [local go_sem] max2_int min2_int max_two min_two max_three min_three max_four min_four   -- for this text's walks alone
set_option linter.unusedVariables false
set_option linter.unusedSimpArgs false

/-! ### paybookref12_Asks: function 14 -/
def paybookref12_Asks.f (a0 : Int) (a1_0 : Int) (a1_1 : Int) (a1_2 : Int) (a1_3 : Int) (a1_4 : Int) (a1_5 : Int) (a1_6 : Int) (a1_7 : Bool) : Option (Int × Int × Int × Int × Int × Int × Bool) := (paybookref12_Kind.f a1_2).bind fun t108 => (if t108 = 0 then (some (0, 0, 0, 0, 0, 0, false)) else (if t108 = 1 then (some (t108, a0, a1_0, a1_5, a1_3, 0, true)) else (if t108 = 2 then (some (t108, a0, a1_0, 0, a1_3, 0, true)) else (some (t108, a0, a1_0, 0, 0, 0, true)))))
def paybookref12_Asks.T1 : Bool × List (List Nat × List Nat) := (true, [([], []), ([0], [0]), ([1], [1]), ([], []), ([], []), ([4], [4]), ([2, 3, 5], [2, 3, 5]), ([], []), ([7, 6, 2, 0, 1, 2, 3, 4, 5, 6, 7], [6, 7])])
def paybookref12_Asks.B1 : List Nat := [0, 1, 3, 0, 0, 16, 63, 0, 255]
theorem paybookref12_Asks.tab1 : rtab .any (opsOf Tryd.f14 1) = paybookref12_Asks.T1 := by kernel_rfl
theorem paybookref12_Asks.bits1 : waitsOk paybookref12_Asks.T1.2 paybookref12_Asks.B1 = true := by kernel_rfl
set_option maxHeartbeats 40000000 in
set_option maxRecDepth 100000 in
theorem paybookref12_Asks.calls (a0 : Int) (a1_0 : Int) (a1_1 : Int) (a1_2 : Int) (a1_3 : Int) (a1_4 : Int) (a1_5 : Int) (a1_6 : Int) (a1_7 : Bool) (r1 : Int) (r2 : Int) (r3 : Int) (r4 : Int) (r5 : Int) (r6 : Int) (r7 : Bool) (w : World) (h : paybookref12_Asks.f a0 a1_0 a1_1 a1_2 a1_3 a1_4 a1_5 a1_6 a1_7 = some (r1, r2, r3, r4, r5, r6, r7)) :
  Calls Tryd.prog 14 #[.int .i64 a0, .agg #[.int .i64 a1_0, .int .i64 a1_1, .int .u8 a1_2, .int .i64 a1_3, .int .i64 a1_4, .int .i64 a1_5, .int .i64 a1_6, .bool a1_7]] w fun e w' => e = .returned (.tuple #[.agg #[.int .u8 r1, .int .i64 r2, .int .i64 r3, .int .i64 r4, .int .i64 r5, .int .u8 r6], .bool r7]) ∧ Below w.heap.size w w' := by
 have hu32 := Tryd.underlying32
 have hu28 := Tryd.underlying28
 have HB := Aside0.mk (Below.refl w.heap.size w)
 have H : ((paybookref12_Kind.f a1_2).bind fun t108 => (if t108 = 0 then (some (0, 0, 0, 0, 0, 0, false)) else (if t108 = 1 then (some (t108, a0, a1_0, a1_5, a1_3, 0, true)) else (if t108 = 2 then (some (t108, a0, a1_0, 0, a1_3, 0, true)) else (some (t108, a0, a1_0, 0, 0, 0, true)))))) = some (r1, r2, r3, r4, r5, r6, r7) := h
 clear h
 replace H := Option.bind_eq_some_iff.mp H
 obtain ⟨t108, A30, H⟩ := H
 replace H : (if t108 = 0 then (some (0, 0, 0, 0, 0, 0, false)) else (if t108 = 1 then (some (t108, a0, a1_0, a1_5, a1_3, 0, true)) else (if t108 = 2 then (some (t108, a0, a1_0, 0, a1_3, 0, true)) else (some (t108, a0, a1_0, 0, 0, 0, true))))) = some (r1, r2, r3, r4, r5, r6, r7) := H
 have A3 := Aside0.mk A30
 clear A30
 by_cases c4 : t108 = 0
 ·rw [if_pos c4] at H
  have c4b0 : (t108 == 0) = true := beq_iff_eq.mpr c4
  have c4b1 : (t108 != 0) = false := bne_eq_false_iff_eq.mpr c4
  clear c4
  simp only [Option.some.injEq, Prod.mk.injEq] at H
  obtain ⟨rfl, rfl, rfl, rfl, rfl, rfl, rfl⟩ := H
  go_enter Tryd.func14, Tryd.ntmps14
  try go_wp2_with (first | ((with_reducible refine gate_dst (N := 3) rfl ?_); refine box_event ?hg (N := 3) ?hd (cs := #[.int .i64 a1_0, .int .i64 a1_1, .int .u8 a1_2, .int .i64 a1_3, .int .i64 a1_4, .int .i64 a1_5, .int .i64 a1_6, .bool a1_7]) (t := 32) ?hr ?_; (case hd => rfl); (case hg => rfl); (case hr => first | (go_simp; done) | (go_simp; rfl)); intro gb106 hg w5 hbox hb; have n0_ := Aside0.mk (below_step (by repeat (first | (with_reducible first | exact HB.out | apply kL | apply kM | apply kE) | exact HB.out)) hb); have n1_ := Aside0.mk (hbox); have n2_ := Aside0.mk ((by rw [hg]; exact (below_size (by repeat (first | (with_reducible first | exact HB.out | apply kL | apply kM | apply kE) | exact HB.out))) : w.heap.size ≤ gb106)); have n3_ := Aside0.mk ((by rw [hg]; exact (below_size (by repeat (first | (with_reducible first | exact HB.out | apply kL | apply kM | apply kE) | exact HB.out))) : w.heap.size ≤ gb106)); clear HB; have HB := n0_; have BK106 := n1_; have GW106 := n2_; have GE106 := n3_; clear n0_ n1_ n2_ n3_; clear hb hbox hg) | ((with_reducible refine gate_dst (N := 4) rfl ?_); refine box_event ?hg (N := 4) ?hd (cs := #[.int .u8 0, .int .i64 0, .int .i64 0, .int .i64 0, .int .i64 0, .int .u8 0]) (t := 28) ?hr ?_; (case hd => rfl); (case hg => rfl); (case hr => first | (go_simp; done) | (go_simp; rfl)); intro gb107 hg w6 hbox hb; have n0_ := Aside0.mk (blk_below (g := gb106) (o := .cells #[.int .i64 a1_0, .int .i64 a1_1, .int .u8 a1_2, .int .i64 a1_3, .int .i64 a1_4, .int .i64 a1_5, .int .i64 a1_6, .bool a1_7] 32 (0, 0)) (by (with_reducible repeat (first | refine kN ?_ _ | refine kD ?_ | refine kA ?_ _)); exact BK106.out) hb); have n1_ := Aside0.mk (below_step (by repeat (first | (with_reducible first | exact HB.out | apply kL | apply kM | apply kE | refine kS ?_ GE106.out) | exact HB.out)) hb); have n2_ := Aside0.mk (hbox); have n3_ := Aside0.mk ((by rw [hg]; exact (below_size (by repeat (first | (with_reducible first | exact HB.out | apply kL | apply kM | apply kE | refine kS ?_ GE106.out) | exact HB.out))) : w.heap.size ≤ gb107)); have n4_ := Aside0.mk ((by rw [hg]; exact (below_size (by repeat (first | (with_reducible first | exact HB.out | apply kL | apply kM | apply kE | refine kS ?_ GE106.out) | exact HB.out))) : w.heap.size ≤ gb107)); have n5_ := Aside0.mk ((by rw [hg]; exact Nat.ne_of_lt (blk_lt (g := gb106) (o := .cells #[.int .i64 a1_0, .int .i64 a1_1, .int .u8 a1_2, .int .i64 a1_3, .int .i64 a1_4, .int .i64 a1_5, .int .i64 a1_6, .bool a1_7] 32 (0, 0)) (by (with_reducible repeat (first | refine kN ?_ _ | refine kD ?_ | refine kA ?_ _)); exact BK106.out)) : gb106 ≠ gb107)); have n6_ := Aside0.mk ((by rw [hg]; exact Nat.ne_of_gt (blk_lt (g := gb106) (o := .cells #[.int .i64 a1_0, .int .i64 a1_1, .int .u8 a1_2, .int .i64 a1_3, .int .i64 a1_4, .int .i64 a1_5, .int .i64 a1_6, .bool a1_7] 32 (0, 0)) (by (with_reducible repeat (first | refine kN ?_ _ | refine kD ?_ | refine kA ?_ _)); exact BK106.out)) : gb107 ≠ gb106)); clear BK106; clear HB; have BK106 := n0_; have HB := n1_; have BK107 := n2_; have GW107 := n3_; have GE107 := n4_; have NB106_107 := n5_; have NB107_106 := n6_; clear n0_ n1_ n2_ n3_ n4_ n5_ n6_; clear hb hbox hg))
  have n0_ := Aside0.mk (kD BK106.out)
  have n1_ := Aside0.mk (kD BK107.out)
  have n2_ := Aside0.mk (kE HB.out)
  clear BK106
  clear BK107
  clear HB
  have BK106 := n0_
  have BK107 := n1_
  have HB := n2_
  clear n0_ n1_ n2_
  refine start_ (n := 9) (S := fun w' => w'.cell? ⟨gb106, 0, none⟩ = some (.int .i64 a1_0) ∧ w'.cell? ⟨gb106, 1, none⟩ = some (.int .i64 a1_1) ∧ w'.cell? ⟨gb106, 2, none⟩ = some (.int .u8 a1_2) ∧ w'.cell? ⟨gb106, 3, none⟩ = some (.int .i64 a1_3) ∧ w'.cell? ⟨gb106, 4, none⟩ = some (.int .i64 a1_4) ∧ w'.cell? ⟨gb106, 5, none⟩ = some (.int .i64 a1_5) ∧ w'.cell? ⟨gb106, 6, none⟩ = some (.int .i64 a1_6) ∧ w'.cell? ⟨gb106, 7, none⟩ = some (.bool a1_7)) (ds := []) #[false, false, false, false, false, false, false, false, false] (by kernel_rfl) rfl rfl ⟨(kC BK106.out 0).trans rfl, (kC BK106.out 1).trans rfl, (kC BK106.out 2).trans rfl, (kC BK106.out 3).trans rfl, (kC BK106.out 4).trans rfl, (kC BK106.out 5).trans rfl, (kC BK106.out 6).trans rfl, (kC BK106.out 7).trans rfl⟩ (fun hHeld => ?_); refine with_tabW paybookref12_Asks.tab1 paybookref12_Asks.bits1 (fun HT_ HW_ => ?_)
  generalize w6.drew = w7 at BK106 BK107 HB hHeld ⊢
  refine pure_ (i := 0) (N := some 7) (v := ?_) (a' := ?_) #[true, false, false, false, false, false, false, false, false] rfl rfl (any_of HT_.out (by kernel_rfl)) (fun _ _ _ h => h) (Or.inl ⟨by rfl, ?_⟩) ?_ ?_
  rotate_left
  ·intro w'
   go_simp
   with_reducible rfl
  rotate_left
  ·simp only [Act.put, List.setIfInBounds_toArray, List.set_cons_zero, List.set_cons_succ, i64_w, i32_w]
   rfl
  refine pure_ (i := 3) (N := some 10) (v := ?_) (a' := ?_) #[true, false, false, true, false, false, false, false, false] rfl rfl (any_of HT_.out (by kernel_rfl)) (fun _ _ _ h => h) (Or.inl ⟨by rfl, ?_⟩) ?_ ?_
  rotate_left
  ·intro w'
   go_simp
   with_reducible rfl
  rotate_left
  ·simp only [Act.put, List.setIfInBounds_toArray, List.set_cons_zero, List.set_cons_succ, i64_w, i32_w]
   rfl
  refine pure_ (i := 4) (N := some 11) (v := ?_) (a' := ?_) #[true, false, false, true, true, false, false, false, false] rfl rfl (any_of HT_.out (by kernel_rfl)) (fun _ _ _ h => h) (Or.inl ⟨by rfl, ?_⟩) ?_ ?_
  rotate_left
  ·intro w'
   go_simp
   with_reducible rfl
  rotate_left
  ·simp only [Act.put, List.setIfInBounds_toArray, List.set_cons_zero, List.set_cons_succ, i64_w, i32_w]
   rfl
  refine take_ (i := 1) (N := some 8) (v := ?_) (a' := ?_) #[true, true, false, true, true, false, false, false, false] rfl rfl (take_ofW HT_.out HW_.out (by kernel_rfl)) (fun _ _ _ h => h) (Or.inl ⟨by rfl, ?_⟩) hHeld ?_ ?_
  rotate_left
  ·rintro w' ⟨s0, s1, s2, s3, s4, s5, s6, s7⟩
   go_simp
   with_reducible rfl
  rotate_left
  ·simp only [Act.put, List.setIfInBounds_toArray, List.set_cons_zero, List.set_cons_succ, i64_w, i32_w]
   rfl
  refine take_ (i := 5) (N := some 12) (v := ?_) (a' := ?_) #[true, true, false, true, true, true, false, false, false] rfl rfl (take_ofW HT_.out HW_.out (by kernel_rfl)) (fun _ _ _ h => h) (Or.inl ⟨by rfl, ?_⟩) hHeld ?_ ?_
  rotate_left
  ·rintro w' ⟨s0, s1, s2, s3, s4, s5, s6, s7⟩
   go_simp
   with_reducible rfl
  rotate_left
  ·simp only [Act.put, List.setIfInBounds_toArray, List.set_cons_zero, List.set_cons_succ, i64_w, i32_w]
   rfl
  refine join_ (σ := Nat) 1 #[true, true, true, true, true, true, true, true, false] (fun s_ => [(9, .int .u8 t108), (6, .pointer (some ⟨s_, 0, none⟩)), (13, .agg #[.int .u8 t108, .int .i64 a0, .int .i64 a1_0, .int .i64 0, .int .i64 0, .int .u8 0])]) (fun s_ w' => (w'.cell? ⟨gb106, 0, none⟩ = some (.int .i64 a1_0) ∧ w'.cell? ⟨gb106, 1, none⟩ = some (.int .i64 a1_1) ∧ w'.cell? ⟨gb106, 2, none⟩ = some (.int .u8 a1_2) ∧ w'.cell? ⟨gb106, 3, none⟩ = some (.int .i64 a1_3) ∧ w'.cell? ⟨gb106, 4, none⟩ = some (.int .i64 a1_4) ∧ w'.cell? ⟨gb106, 5, none⟩ = some (.int .i64 a1_5) ∧ w'.cell? ⟨gb106, 6, none⟩ = some (.int .i64 a1_6) ∧ w'.cell? ⟨gb106, 7, none⟩ = some (.bool a1_7)) ∧ (w'.heap[gb106]? = some (.cells #[.int .i64 a1_0, .int .i64 a1_1, .int .u8 a1_2, .int .i64 a1_3, .int .i64 a1_4, .int .i64 a1_5, .int .i64 a1_6, .bool a1_7] 32 (0, 0))) ∧ (w'.heap[gb107]? = some (.cells #[.int .u8 0, .int .i64 0, .int .i64 0, .int .i64 0, .int .i64 0, .int .u8 0] 28 (0, 0))) ∧ (w'.heap[s_]? = some (.cells #[.int .u8 0, .int .i64 0, .int .i64 0, .int .i64 0, .int .i64 0, .int .u8 0] 28 (0, 0))) ∧ (w.heap.size ≤ s_) ∧ (w.heap.size ≤ s_) ∧ (gb106 ≠ s_) ∧ (s_ ≠ gb106) ∧ (gb107 ≠ s_) ∧ (s_ ≠ gb107) ∧ (Below w.heap.size w w')) ?_ ?_
  rotate_left
  ·intro hCont
   refine two_ (i := 2) (j := 7) (Ni := some 9) (Nj := some 6) #[true, true, true, true, true, true, false, false, false] #[true, true, false, true, true, true, false, true, false] rfl rfl rfl rfl (two_of HT_.out (by kernel_rfl)) (by decide) (by decide) (fun K hK => ?_) (fun K hK => ?_)
   ·skip
    refine goes_ Tryd.func28 (by kernel_rfl) rfl #[.int .u8 a1_2] (by rfl) rfl rfl (by (try simp only [List.map_toArray, List.map_cons, List.map_nil]); first | done | rfl | (simp only [List.length_drop, List.length_take]; rfl)) ?_
    with_reducible refine (paybookref12_Kind.calls a1_2 t108 _ A3.out).mono ?_
    rintro e w' ⟨rfl, ⟨nd, rfl⟩⟩
    refine ⟨_, rfl, ?_⟩
    refine hK.out _ _ ⟨(kC BK106.out 0).trans rfl, (kC BK106.out 1).trans rfl, (kC BK106.out 2).trans rfl, (kC BK106.out 3).trans rfl, (kC BK106.out 4).trans rfl, (kC BK106.out 5).trans rfl, (kC BK106.out 6).trans rfl, (kC BK106.out 7).trans rfl⟩ (fun hHeld => ?_)
    clear hK K
    refine norm_ (a' := ?_) ?_ ?_
    rotate_left
    ·show Act.put _ (some 9) _ = _
     simp only [Act.put, List.setIfInBounds_toArray, List.set_cons_zero, List.set_cons_succ, i64_w, i32_w]
     rfl
    refine pure_ (i := 6) (N := some 13) (v := ?_) (a' := ?_) #[true, true, true, true, true, true, true, false, false] rfl rfl (any_of HT_.out (by kernel_rfl)) (fun _ _ _ h => h) (Or.inl ⟨by rfl, ?_⟩) ?_ ?_
    rotate_left
    ·intro w'
     go_simp
     with_reducible rfl
    rotate_left
    ·simp only [Act.put, List.setIfInBounds_toArray, List.set_cons_zero, List.set_cons_succ, i64_w, i32_w]
     rfl
    refine one_ (i := 7) (N := some 6) #[true, true, true, true, true, true, true, true, false] rfl rfl (one_of HT_.out (by kernel_rfl)) (by decide) (fun K hK => ?_)
    refine box_step ?hg (N := 6) ?hd (cs := #[.int .u8 0, .int .i64 0, .int .i64 0, .int .i64 0, .int .i64 0, .int .u8 0]) (t := 28) ?hr ?_; (case hd => rfl); (case hg => rfl); (case hr => first | (go_simp; done) | (go_simp; rfl))
    intro gb109 hg w8 hbox hb
    have n0_ := Aside0.mk (blk_below (g := gb106) (o := .cells #[.int .i64 a1_0, .int .i64 a1_1, .int .u8 a1_2, .int .i64 a1_3, .int .i64 a1_4, .int .i64 a1_5, .int .i64 a1_6, .bool a1_7] 32 (0, 0)) (by (with_reducible repeat (first | refine kN ?_ _ | refine kD ?_ | refine kA ?_ _)); exact BK106.out) hb)
    have n1_ := Aside0.mk (blk_below (g := gb107) (o := .cells #[.int .u8 0, .int .i64 0, .int .i64 0, .int .i64 0, .int .i64 0, .int .u8 0] 28 (0, 0)) (by (with_reducible repeat (first | refine kN ?_ _ | refine kD ?_ | refine kA ?_ _)); exact BK107.out) hb)
    have n2_ := Aside0.mk (below_step (by repeat (first | (with_reducible first | exact HB.out | apply kL | apply kM | apply kE | refine kS ?_ GE106.out | refine kS ?_ GE107.out) | exact HB.out)) hb)
    have n3_ := Aside0.mk (hbox)
    have n4_ := Aside0.mk ((by rw [hg]; exact (below_size (by repeat (first | (with_reducible first | exact HB.out | apply kL | apply kM | apply kE | refine kS ?_ GE106.out | refine kS ?_ GE107.out) | exact HB.out))) : w.heap.size ≤ gb109))
    have n5_ := Aside0.mk ((by rw [hg]; exact (below_size (by repeat (first | (with_reducible first | exact HB.out | apply kL | apply kM | apply kE | refine kS ?_ GE106.out | refine kS ?_ GE107.out) | exact HB.out))) : w.heap.size ≤ gb109))
    have n6_ := Aside0.mk ((by rw [hg]; exact Nat.ne_of_lt (blk_lt (g := gb106) (o := .cells #[.int .i64 a1_0, .int .i64 a1_1, .int .u8 a1_2, .int .i64 a1_3, .int .i64 a1_4, .int .i64 a1_5, .int .i64 a1_6, .bool a1_7] 32 (0, 0)) (by (with_reducible repeat (first | refine kN ?_ _ | refine kD ?_ | refine kA ?_ _)); exact BK106.out)) : gb106 ≠ gb109))
    have n7_ := Aside0.mk ((by rw [hg]; exact Nat.ne_of_gt (blk_lt (g := gb106) (o := .cells #[.int .i64 a1_0, .int .i64 a1_1, .int .u8 a1_2, .int .i64 a1_3, .int .i64 a1_4, .int .i64 a1_5, .int .i64 a1_6, .bool a1_7] 32 (0, 0)) (by (with_reducible repeat (first | refine kN ?_ _ | refine kD ?_ | refine kA ?_ _)); exact BK106.out)) : gb109 ≠ gb106))
    have n8_ := Aside0.mk ((by rw [hg]; exact Nat.ne_of_lt (blk_lt (g := gb107) (o := .cells #[.int .u8 0, .int .i64 0, .int .i64 0, .int .i64 0, .int .i64 0, .int .u8 0] 28 (0, 0)) (by (with_reducible repeat (first | refine kN ?_ _ | refine kD ?_ | refine kA ?_ _)); exact BK107.out)) : gb107 ≠ gb109))
    have n9_ := Aside0.mk ((by rw [hg]; exact Nat.ne_of_gt (blk_lt (g := gb107) (o := .cells #[.int .u8 0, .int .i64 0, .int .i64 0, .int .i64 0, .int .i64 0, .int .u8 0] 28 (0, 0)) (by (with_reducible repeat (first | refine kN ?_ _ | refine kD ?_ | refine kA ?_ _)); exact BK107.out)) : gb109 ≠ gb107))
    clear BK106
    clear BK107
    clear HB
    have BK106 := n0_
    have BK107 := n1_
    have HB := n2_
    have BK109 := n3_
    have GW109 := n4_
    have GE109 := n5_
    have NB106_109 := n6_
    have NB109_106 := n7_
    have NB107_109 := n8_
    have NB109_107 := n9_
    clear n0_ n1_ n2_ n3_ n4_ n5_ n6_ n7_ n8_ n9_
    clear hb hbox hg
    refine hK.out _ _ ⟨(kC BK106.out 0).trans rfl, (kC BK106.out 1).trans rfl, (kC BK106.out 2).trans rfl, (kC BK106.out 3).trans rfl, (kC BK106.out 4).trans rfl, (kC BK106.out 5).trans rfl, (kC BK106.out 6).trans rfl, (kC BK106.out 7).trans rfl⟩ (fun hHeld => ?_)
    clear hK K
    refine norm_ (a' := ?_) ?_ ?_
    rotate_left
    ·show Act.put _ (some 6) _ = _
     simp only [Act.put, List.setIfInBounds_toArray, List.set_cons_zero, List.set_cons_succ, i64_w, i32_w]
     rfl
    exact norm_ (by simp only [putAll, Act.put, List.setIfInBounds_toArray, List.set_cons_zero, List.set_cons_succ]) (hCont (gb109) _ ⟨hHeld, (by (with_reducible repeat (first | refine kN ?_ _ | refine kD ?_ | refine kA ?_ _)); exact BK106.out), (by (with_reducible repeat (first | refine kN ?_ _ | refine kD ?_ | refine kA ?_ _)); exact BK107.out), (by (with_reducible repeat (first | refine kN ?_ _ | refine kD ?_ | refine kA ?_ _)); exact BK109.out), GW109.out, GE109.out, NB106_109.out, NB109_106.out, NB107_109.out, NB109_107.out, (by repeat (first | (with_reducible first | exact HB.out | apply kL | apply kM | apply kE | refine kS ?_ GE106.out | refine kS ?_ GE107.out | refine kS ?_ GE109.out) | exact HB.out))⟩)
   ·skip
    refine box_step ?hg (N := 6) ?hd (cs := #[.int .u8 0, .int .i64 0, .int .i64 0, .int .i64 0, .int .i64 0, .int .u8 0]) (t := 28) ?hr ?_; (case hd => rfl); (case hg => rfl); (case hr => first | (go_simp; done) | (go_simp; rfl))
    intro gb109 hg w8 hbox hb
    have n0_ := Aside0.mk (blk_below (g := gb106) (o := .cells #[.int .i64 a1_0, .int .i64 a1_1, .int .u8 a1_2, .int .i64 a1_3, .int .i64 a1_4, .int .i64 a1_5, .int .i64 a1_6, .bool a1_7] 32 (0, 0)) (by (with_reducible repeat (first | refine kN ?_ _ | refine kD ?_ | refine kA ?_ _)); exact BK106.out) hb)
    have n1_ := Aside0.mk (blk_below (g := gb107) (o := .cells #[.int .u8 0, .int .i64 0, .int .i64 0, .int .i64 0, .int .i64 0, .int .u8 0] 28 (0, 0)) (by (with_reducible repeat (first | refine kN ?_ _ | refine kD ?_ | refine kA ?_ _)); exact BK107.out) hb)
    have n2_ := Aside0.mk (below_step (by repeat (first | (with_reducible first | exact HB.out | apply kL | apply kM | apply kE | refine kS ?_ GE106.out | refine kS ?_ GE107.out) | exact HB.out)) hb)
    have n3_ := Aside0.mk (hbox)
    have n4_ := Aside0.mk ((by rw [hg]; exact (below_size (by repeat (first | (with_reducible first | exact HB.out | apply kL | apply kM | apply kE | refine kS ?_ GE106.out | refine kS ?_ GE107.out) | exact HB.out))) : w.heap.size ≤ gb109))
    have n5_ := Aside0.mk ((by rw [hg]; exact (below_size (by repeat (first | (with_reducible first | exact HB.out | apply kL | apply kM | apply kE | refine kS ?_ GE106.out | refine kS ?_ GE107.out) | exact HB.out))) : w.heap.size ≤ gb109))
    have n6_ := Aside0.mk ((by rw [hg]; exact Nat.ne_of_lt (blk_lt (g := gb106) (o := .cells #[.int .i64 a1_0, .int .i64 a1_1, .int .u8 a1_2, .int .i64 a1_3, .int .i64 a1_4, .int .i64 a1_5, .int .i64 a1_6, .bool a1_7] 32 (0, 0)) (by (with_reducible repeat (first | refine kN ?_ _ | refine kD ?_ | refine kA ?_ _)); exact BK106.out)) : gb106 ≠ gb109))
    have n7_ := Aside0.mk ((by rw [hg]; exact Nat.ne_of_gt (blk_lt (g := gb106) (o := .cells #[.int .i64 a1_0, .int .i64 a1_1, .int .u8 a1_2, .int .i64 a1_3, .int .i64 a1_4, .int .i64 a1_5, .int .i64 a1_6, .bool a1_7] 32 (0, 0)) (by (with_reducible repeat (first | refine kN ?_ _ | refine kD ?_ | refine kA ?_ _)); exact BK106.out)) : gb109 ≠ gb106))
    have n8_ := Aside0.mk ((by rw [hg]; exact Nat.ne_of_lt (blk_lt (g := gb107) (o := .cells #[.int .u8 0, .int .i64 0, .int .i64 0, .int .i64 0, .int .i64 0, .int .u8 0] 28 (0, 0)) (by (with_reducible repeat (first | refine kN ?_ _ | refine kD ?_ | refine kA ?_ _)); exact BK107.out)) : gb107 ≠ gb109))
    have n9_ := Aside0.mk ((by rw [hg]; exact Nat.ne_of_gt (blk_lt (g := gb107) (o := .cells #[.int .u8 0, .int .i64 0, .int .i64 0, .int .i64 0, .int .i64 0, .int .u8 0] 28 (0, 0)) (by (with_reducible repeat (first | refine kN ?_ _ | refine kD ?_ | refine kA ?_ _)); exact BK107.out)) : gb109 ≠ gb107))
    clear BK106
    clear BK107
    clear HB
    have BK106 := n0_
    have BK107 := n1_
    have HB := n2_
    have BK109 := n3_
    have GW109 := n4_
    have GE109 := n5_
    have NB106_109 := n6_
    have NB109_106 := n7_
    have NB107_109 := n8_
    have NB109_107 := n9_
    clear n0_ n1_ n2_ n3_ n4_ n5_ n6_ n7_ n8_ n9_
    clear hb hbox hg
    refine hK.out _ _ ⟨(kC BK106.out 0).trans rfl, (kC BK106.out 1).trans rfl, (kC BK106.out 2).trans rfl, (kC BK106.out 3).trans rfl, (kC BK106.out 4).trans rfl, (kC BK106.out 5).trans rfl, (kC BK106.out 6).trans rfl, (kC BK106.out 7).trans rfl⟩ (fun hHeld => ?_)
    clear hK K
    refine norm_ (a' := ?_) ?_ ?_
    rotate_left
    ·show Act.put _ (some 6) _ = _
     simp only [Act.put, List.setIfInBounds_toArray, List.set_cons_zero, List.set_cons_succ, i64_w, i32_w]
     rfl
    refine one_ (i := 2) (N := some 9) #[true, true, true, true, true, true, false, true, false] rfl rfl (one_of HT_.out (by kernel_rfl)) (by decide) (fun K hK => ?_)
    refine goes_ Tryd.func28 (by kernel_rfl) rfl #[.int .u8 a1_2] (by rfl) rfl rfl (by (try simp only [List.map_toArray, List.map_cons, List.map_nil]); first | done | rfl | (simp only [List.length_drop, List.length_take]; rfl)) ?_
    with_reducible refine (paybookref12_Kind.calls a1_2 t108 _ A3.out).mono ?_
    rintro e w' ⟨rfl, ⟨nd, rfl⟩⟩
    refine ⟨_, rfl, ?_⟩
    refine hK.out _ _ ⟨(kC BK106.out 0).trans rfl, (kC BK106.out 1).trans rfl, (kC BK106.out 2).trans rfl, (kC BK106.out 3).trans rfl, (kC BK106.out 4).trans rfl, (kC BK106.out 5).trans rfl, (kC BK106.out 6).trans rfl, (kC BK106.out 7).trans rfl⟩ (fun hHeld => ?_)
    clear hK K
    refine norm_ (a' := ?_) ?_ ?_
    rotate_left
    ·show Act.put _ (some 9) _ = _
     simp only [Act.put, List.setIfInBounds_toArray, List.set_cons_zero, List.set_cons_succ, i64_w, i32_w]
     rfl
    refine pure_ (i := 6) (N := some 13) (v := ?_) (a' := ?_) #[true, true, true, true, true, true, true, true, false] rfl rfl (any_of HT_.out (by kernel_rfl)) (fun _ _ _ h => h) (Or.inl ⟨by rfl, ?_⟩) ?_ ?_
    rotate_left
    ·intro w'
     go_simp
     with_reducible rfl
    rotate_left
    ·simp only [Act.put, List.setIfInBounds_toArray, List.set_cons_zero, List.set_cons_succ, i64_w, i32_w]
     rfl
    exact norm_ (by simp only [putAll, Act.put, List.setIfInBounds_toArray, List.set_cons_zero, List.set_cons_succ]) (hCont (gb109) _ ⟨hHeld, (by (with_reducible repeat (first | refine kN ?_ _ | refine kD ?_ | refine kA ?_ _)); exact BK106.out), (by (with_reducible repeat (first | refine kN ?_ _ | refine kD ?_ | refine kA ?_ _)); exact BK107.out), (by (with_reducible repeat (first | refine kN ?_ _ | refine kD ?_ | refine kA ?_ _)); exact BK109.out), GW109.out, GE109.out, NB106_109.out, NB109_106.out, NB107_109.out, NB109_107.out, (by repeat (first | (with_reducible first | exact HB.out | apply kL | apply kM | apply kE | refine kS ?_ GE106.out | refine kS ?_ GE107.out | refine kS ?_ GE109.out) | exact HB.out))⟩)
  rintro gb109 w9 ⟨hS_, h0_, h1_, h2_, h3_, h4_, h5_, h6_, h7_, h8_, h9_⟩
  have n0_ : Aside0 (w9.heap[gb106]? = some (.cells #[.int .i64 a1_0, .int .i64 a1_1, .int .u8 a1_2, .int .i64 a1_3, .int .i64 a1_4, .int .i64 a1_5, .int .i64 a1_6, .bool a1_7] 32 (0, 0))) := ⟨h0_⟩
  have n1_ : Aside0 (w9.heap[gb107]? = some (.cells #[.int .u8 0, .int .i64 0, .int .i64 0, .int .i64 0, .int .i64 0, .int .u8 0] 28 (0, 0))) := ⟨h1_⟩
  have n2_ : Aside0 (w9.heap[gb109]? = some (.cells #[.int .u8 0, .int .i64 0, .int .i64 0, .int .i64 0, .int .i64 0, .int .u8 0] 28 (0, 0))) := ⟨h2_⟩
  have n3_ : Aside0 (w.heap.size ≤ gb109) := ⟨h3_⟩
  have n4_ : Aside0 (w.heap.size ≤ gb109) := ⟨h4_⟩
  have n5_ : Aside0 (gb106 ≠ gb109) := ⟨h5_⟩
  have n6_ : Aside0 (gb109 ≠ gb106) := ⟨h6_⟩
  have n7_ : Aside0 (gb107 ≠ gb109) := ⟨h7_⟩
  have n8_ : Aside0 (gb109 ≠ gb107) := ⟨h8_⟩
  have n9_ : Aside0 (Below w.heap.size w w9) := ⟨h9_⟩
  clear BK106
  clear BK107
  clear HB
  clear h0_ h1_ h2_ h3_ h4_ h5_ h6_ h7_ h8_ h9_
  have BK106 := n0_
  have BK107 := n1_
  have BK109 := n2_
  have GW109 := n3_
  have GE109 := n4_
  have NB106_109 := n5_
  have NB109_106 := n6_
  have NB107_109 := n7_
  have NB109_107 := n8_
  have HB := n9_
  clear n0_ n1_ n2_ n3_ n4_ n5_ n6_ n7_ n8_ n9_
  have hHeld : w9.cell? ⟨gb106, 0, none⟩ = some (.int .i64 a1_0) ∧ w9.cell? ⟨gb106, 1, none⟩ = some (.int .i64 a1_1) ∧ w9.cell? ⟨gb106, 2, none⟩ = some (.int .u8 a1_2) ∧ w9.cell? ⟨gb106, 3, none⟩ = some (.int .i64 a1_3) ∧ w9.cell? ⟨gb106, 4, none⟩ = some (.int .i64 a1_4) ∧ w9.cell? ⟨gb106, 5, none⟩ = some (.int .i64 a1_5) ∧ w9.cell? ⟨gb106, 6, none⟩ = some (.int .i64 a1_6) ∧ w9.cell? ⟨gb106, 7, none⟩ = some (.bool a1_7) := hS_
  refine norm_ (a' := ?_) ?_ ?_
  rotate_left
  ·simp only [putAll, Act.put, List.setIfInBounds_toArray, List.set_cons_zero, List.set_cons_succ]
   rfl
  refine one_ (i := 8) (N := none) #[true, true, true, true, true, true, true, true, true] rfl rfl (one_of HT_.out (by kernel_rfl)) (by decide) (fun K hK => ?_)
  have hs10 : w9.cell? ⟨gb109, 0, none⟩ = some (.int .u8 0) := (kC BK109.out 0).trans rfl
  have hfs10 := kF BK109.out 0
  have hns10_0 := NB106_109.out
  have hns10_1 := NB107_109.out
  have hms10_0 := NB109_106.out
  have hms10_1 := NB109_107.out
  have hs11 : w9.cell? ⟨gb109, 1, none⟩ = some (.int .i64 0) := (kC BK109.out 1).trans rfl
  have hfs11 := kF BK109.out 1
  have hns11_0 := NB106_109.out
  have hns11_1 := NB107_109.out
  have hms11_0 := NB109_106.out
  have hms11_1 := NB109_107.out
  have hs12 : w9.cell? ⟨gb109, 2, none⟩ = some (.int .i64 0) := (kC BK109.out 2).trans rfl
  have hfs12 := kF BK109.out 2
  have hns12_0 := NB106_109.out
  have hns12_1 := NB107_109.out
  have hms12_0 := NB109_106.out
  have hms12_1 := NB109_107.out
  have hs13 : w9.cell? ⟨gb109, 3, none⟩ = some (.int .i64 0) := (kC BK109.out 3).trans rfl
  have hfs13 := kF BK109.out 3
  have hns13_0 := NB106_109.out
  have hns13_1 := NB107_109.out
  have hms13_0 := NB109_106.out
  have hms13_1 := NB109_107.out
  have hs14 : w9.cell? ⟨gb109, 4, none⟩ = some (.int .i64 0) := (kC BK109.out 4).trans rfl
  have hfs14 := kF BK109.out 4
  have hns14_0 := NB106_109.out
  have hns14_1 := NB107_109.out
  have hms14_0 := NB109_106.out
  have hms14_1 := NB109_107.out
  have hs15 : w9.cell? ⟨gb109, 5, none⟩ = some (.int .u8 0) := (kC BK109.out 5).trans rfl
  have hfs15 := kF BK109.out 5
  have hns15_0 := NB106_109.out
  have hns15_1 := NB107_109.out
  have hms15_0 := NB109_106.out
  have hms15_1 := NB109_107.out
  refine skip_ (w1 := ?_) (by rfl) rfl ?_ ?_
  rotate_left
  ·go_simp
   rfl
  refine hK.out _ _ ⟨((cell_far (p := ⟨gb109, _, none⟩) NB106_109.out _).trans (((cell_far (p := ⟨gb109, _, none⟩) NB106_109.out _).trans (((cell_far (p := ⟨gb109, _, none⟩) NB106_109.out _).trans (((cell_far (p := ⟨gb109, _, none⟩) NB106_109.out _).trans (((cell_far (p := ⟨gb109, _, none⟩) NB106_109.out _).trans (((cell_far (p := ⟨gb109, _, none⟩) NB106_109.out _).trans (hHeld.1)))))))))))), ((cell_far (p := ⟨gb109, _, none⟩) NB106_109.out _).trans (((cell_far (p := ⟨gb109, _, none⟩) NB106_109.out _).trans (((cell_far (p := ⟨gb109, _, none⟩) NB106_109.out _).trans (((cell_far (p := ⟨gb109, _, none⟩) NB106_109.out _).trans (((cell_far (p := ⟨gb109, _, none⟩) NB106_109.out _).trans (((cell_far (p := ⟨gb109, _, none⟩) NB106_109.out _).trans (hHeld.2.1)))))))))))), ((cell_far (p := ⟨gb109, _, none⟩) NB106_109.out _).trans (((cell_far (p := ⟨gb109, _, none⟩) NB106_109.out _).trans (((cell_far (p := ⟨gb109, _, none⟩) NB106_109.out _).trans (((cell_far (p := ⟨gb109, _, none⟩) NB106_109.out _).trans (((cell_far (p := ⟨gb109, _, none⟩) NB106_109.out _).trans (((cell_far (p := ⟨gb109, _, none⟩) NB106_109.out _).trans (hHeld.2.2.1)))))))))))), ((cell_far (p := ⟨gb109, _, none⟩) NB106_109.out _).trans (((cell_far (p := ⟨gb109, _, none⟩) NB106_109.out _).trans (((cell_far (p := ⟨gb109, _, none⟩) NB106_109.out _).trans (((cell_far (p := ⟨gb109, _, none⟩) NB106_109.out _).trans (((cell_far (p := ⟨gb109, _, none⟩) NB106_109.out _).trans (((cell_far (p := ⟨gb109, _, none⟩) NB106_109.out _).trans (hHeld.2.2.2.1)))))))))))), ((cell_far (p := ⟨gb109, _, none⟩) NB106_109.out _).trans (((cell_far (p := ⟨gb109, _, none⟩) NB106_109.out _).trans (((cell_far (p := ⟨gb109, _, none⟩) NB106_109.out _).trans (((cell_far (p := ⟨gb109, _, none⟩) NB106_109.out _).trans (((cell_far (p := ⟨gb109, _, none⟩) NB106_109.out _).trans (((cell_far (p := ⟨gb109, _, none⟩) NB106_109.out _).trans (hHeld.2.2.2.2.1)))))))))))), ((cell_far (p := ⟨gb109, _, none⟩) NB106_109.out _).trans (((cell_far (p := ⟨gb109, _, none⟩) NB106_109.out _).trans (((cell_far (p := ⟨gb109, _, none⟩) NB106_109.out _).trans (((cell_far (p := ⟨gb109, _, none⟩) NB106_109.out _).trans (((cell_far (p := ⟨gb109, _, none⟩) NB106_109.out _).trans (((cell_far (p := ⟨gb109, _, none⟩) NB106_109.out _).trans (hHeld.2.2.2.2.2.1)))))))))))), ((cell_far (p := ⟨gb109, _, none⟩) NB106_109.out _).trans (((cell_far (p := ⟨gb109, _, none⟩) NB106_109.out _).trans (((cell_far (p := ⟨gb109, _, none⟩) NB106_109.out _).trans (((cell_far (p := ⟨gb109, _, none⟩) NB106_109.out _).trans (((cell_far (p := ⟨gb109, _, none⟩) NB106_109.out _).trans (((cell_far (p := ⟨gb109, _, none⟩) NB106_109.out _).trans (hHeld.2.2.2.2.2.2.1)))))))))))), ((cell_far (p := ⟨gb109, _, none⟩) NB106_109.out _).trans (((cell_far (p := ⟨gb109, _, none⟩) NB106_109.out _).trans (((cell_far (p := ⟨gb109, _, none⟩) NB106_109.out _).trans (((cell_far (p := ⟨gb109, _, none⟩) NB106_109.out _).trans (((cell_far (p := ⟨gb109, _, none⟩) NB106_109.out _).trans (((cell_far (p := ⟨gb109, _, none⟩) NB106_109.out _).trans (hHeld.2.2.2.2.2.2.2))))))))))))⟩ (fun hHeld => ?_)
  clear hK K
  refine done_ (done_of HT_.out (by kernel_rfl)) ?_
  have hnb16 := NB109_106.out
  have hnc16 := NB106_109.out
  have hnb17 := NB109_107.out
  have hnc17 := NB107_109.out
  obtain ⟨hcz18_0, hcz18_1, hcz18_2, hcz18_3, hcz18_4, hcz18_5, hfz18_0, hfz18_1, hfz18_2, hfz18_3, hfz18_4, hfz18_5⟩ := bxc6 BK109.out
  have hnb19 := NB107_106.out
  have hnc19 := NB106_107.out
  obtain ⟨hcz20_0, hcz20_1, hcz20_2, hcz20_3, hcz20_4, hcz20_5, hfz20_0, hfz20_1, hfz20_2, hfz20_3, hfz20_4, hfz20_5⟩ := bxc6 BK107.out
  try go_wp2_with (first | ((with_reducible refine gate_store (t := 28) (p := 4) rfl ?_); refine rec_event (t := 28) (p := 4) (v := ?vo_w21) (g := gb107) (t' := 28) #[.int .u8 0, .int .i64 0, .int .i64 0, .int .i64 0, .int .i64 0, .int .u8 0] #[.int .u8 0, .int .i64 0, .int .i64 0, .int .i64 0, .int .i64 0, .int .u8 0] ?hg ?ho ?hn ?hx ?hy ?hb (by rfl) (by kernel_rfl) (by kernel_rfl) ?_; (case ho => rfl); (case hg => rfl); (case hn => rfl); (case hx => rfl); (case hy => rfl); (case hb => exact by (with_reducible repeat (first | refine kN ?_ _ | refine kD ?_ | refine kA ?_ _ | refine kR ?_ NB107_109.out _)); (with_reducible repeat (first | refine kN ?_ _ | refine kD ?_ | refine kA ?_ _)); exact BK107.out); intro w21 hblk hoth hbel; have n0_ : Aside0 (w21.heap[gb106]? = some (.cells #[.int .i64 a1_0, .int .i64 a1_1, .int .u8 a1_2, .int .i64 a1_3, .int .i64 a1_4, .int .i64 a1_5, .int .i64 a1_6, .bool a1_7] 32 (0, 0))) := ⟨(hoth gb106 NB106_107.out).trans (by (with_reducible repeat (first | refine kN ?_ _ | refine kD ?_ | refine kA ?_ _ | refine kR ?_ NB106_109.out _)); (with_reducible repeat (first | refine kN ?_ _ | refine kD ?_ | refine kA ?_ _)); exact BK106.out)⟩; have n1_ : Aside0 (w21.heap[gb107]? = some (.cells #[.int .u8 0, .int .i64 0, .int .i64 0, .int .i64 0, .int .i64 0, .int .u8 0] 28 (0, 0))) := ⟨hblk⟩; have n2_ : Aside0 (w21.heap[gb109]? = some (.cells #[.int .u8 t108, .int .i64 a0, .int .i64 a1_0, .int .i64 0, .int .i64 0, .int .u8 0] 28 (0, 0))) := ⟨(hoth gb109 NB109_107.out).trans (by (with_reducible repeat (first | refine kN ?_ _ | refine kD ?_ | refine kA ?_ _)); refine bxw6 (.int .u8 0) (.int .i64 0) (.int .i64 0) (.int .i64 0) (.int .i64 0) (.int .u8 0) ?_; (with_reducible repeat (first | refine kN ?_ _ | refine kD ?_ | refine kA ?_ _)); exact BK109.out)⟩; have n3_ : Aside0 (Below w.heap.size w w21) := ⟨Below.trans (by repeat (first | (with_reducible first | exact HB.out | apply kL | apply kM | apply kE | refine kS ?_ GE106.out | refine kS ?_ GE107.out | refine kS ?_ GE109.out) | exact HB.out)) (hbel _ GE107.out)⟩; clear hblk hoth hbel; clear BK106; clear BK107; clear BK109; clear HB; have BK106 := n0_; have BK107 := n1_; have BK109 := n2_; have HB := n3_; clear n0_ n1_ n2_ n3_))
  refine bodyPost_ret (results_ct rfl _ _ gb107 28 #[.int .u8 0, .int .i64 0, .int .i64 0, .int .i64 0, .int .i64 0, .int .u8 0] (0, 0) _ rfl (by (with_reducible repeat (first | refine kN ?_ _ | refine kD ?_ | refine kA ?_ _)); exact BK107.out) Tryd.underlying28 rfl (by kernel_rfl)) rfl ?_
  exact ⟨by first | rfl | (simp [errW_none, errW_some] <;> rfl) | (simp [*, errW_none, errW_some] <;> rfl), by repeat (first | (with_reducible first | exact HB.out | apply kL | apply kM | apply kE | refine kS ?_ GE106.out | refine kS ?_ GE107.out | refine kS ?_ GE109.out) | exact HB.out)⟩
 ·rw [if_neg c4] at H
  have c4b0 : (t108 == 0) = false := beq_eq_false_iff_ne.mpr c4
  have c4b1 : (t108 != 0) = true := bne_iff_ne.mpr c4
  by_cases c22 : t108 = 1
  ·rw [if_pos c22] at H
   have c22b0 : (t108 == 1) = true := beq_iff_eq.mpr c22
   have c22b1 : (t108 != 1) = false := bne_eq_false_iff_eq.mpr c22
   clear c22
   simp only [Option.some.injEq, Prod.mk.injEq] at H
   obtain ⟨rfl, rfl, rfl, rfl, rfl, rfl, rfl⟩ := H
   go_enter Tryd.func14, Tryd.ntmps14
   try go_wp2_with (first | ((with_reducible refine gate_dst (N := 3) rfl ?_); refine box_event ?hg (N := 3) ?hd (cs := #[.int .i64 a1_0, .int .i64 a1_1, .int .u8 a1_2, .int .i64 a1_3, .int .i64 a1_4, .int .i64 a1_5, .int .i64 a1_6, .bool a1_7]) (t := 32) ?hr ?_; (case hd => rfl); (case hg => rfl); (case hr => first | (go_simp; done) | (go_simp; rfl)); intro gb106 hg w23 hbox hb; have n0_ := Aside0.mk (below_step (by repeat (first | (with_reducible first | exact HB.out | apply kL | apply kM | apply kE) | exact HB.out)) hb); have n1_ := Aside0.mk (hbox); have n2_ := Aside0.mk ((by rw [hg]; exact (below_size (by repeat (first | (with_reducible first | exact HB.out | apply kL | apply kM | apply kE) | exact HB.out))) : w.heap.size ≤ gb106)); have n3_ := Aside0.mk ((by rw [hg]; exact (below_size (by repeat (first | (with_reducible first | exact HB.out | apply kL | apply kM | apply kE) | exact HB.out))) : w.heap.size ≤ gb106)); clear HB; have HB := n0_; have BK106 := n1_; have GW106 := n2_; have GE106 := n3_; clear n0_ n1_ n2_ n3_; clear hb hbox hg) | ((with_reducible refine gate_dst (N := 4) rfl ?_); refine box_event ?hg (N := 4) ?hd (cs := #[.int .u8 0, .int .i64 0, .int .i64 0, .int .i64 0, .int .i64 0, .int .u8 0]) (t := 28) ?hr ?_; (case hd => rfl); (case hg => rfl); (case hr => first | (go_simp; done) | (go_simp; rfl)); intro gb107 hg w24 hbox hb; have n0_ := Aside0.mk (blk_below (g := gb106) (o := .cells #[.int .i64 a1_0, .int .i64 a1_1, .int .u8 a1_2, .int .i64 a1_3, .int .i64 a1_4, .int .i64 a1_5, .int .i64 a1_6, .bool a1_7] 32 (0, 0)) (by (with_reducible repeat (first | refine kN ?_ _ | refine kD ?_ | refine kA ?_ _)); exact BK106.out) hb); have n1_ := Aside0.mk (below_step (by repeat (first | (with_reducible first | exact HB.out | apply kL | apply kM | apply kE | refine kS ?_ GE106.out) | exact HB.out)) hb); have n2_ := Aside0.mk (hbox); have n3_ := Aside0.mk ((by rw [hg]; exact (below_size (by repeat (first | (with_reducible first | exact HB.out | apply kL | apply kM | apply kE | refine kS ?_ GE106.out) | exact HB.out))) : w.heap.size ≤ gb107)); have n4_ := Aside0.mk ((by rw [hg]; exact (below_size (by repeat (first | (with_reducible first | exact HB.out | apply kL | apply kM | apply kE | refine kS ?_ GE106.out) | exact HB.out))) : w.heap.size ≤ gb107)); have n5_ := Aside0.mk ((by rw [hg]; exact Nat.ne_of_lt (blk_lt (g := gb106) (o := .cells #[.int .i64 a1_0, .int .i64 a1_1, .int .u8 a1_2, .int .i64 a1_3, .int .i64 a1_4, .int .i64 a1_5, .int .i64 a1_6, .bool a1_7] 32 (0, 0)) (by (with_reducible repeat (first | refine kN ?_ _ | refine kD ?_ | refine kA ?_ _)); exact BK106.out)) : gb106 ≠ gb107)); have n6_ := Aside0.mk ((by rw [hg]; exact Nat.ne_of_gt (blk_lt (g := gb106) (o := .cells #[.int .i64 a1_0, .int .i64 a1_1, .int .u8 a1_2, .int .i64 a1_3, .int .i64 a1_4, .int .i64 a1_5, .int .i64 a1_6, .bool a1_7] 32 (0, 0)) (by (with_reducible repeat (first | refine kN ?_ _ | refine kD ?_ | refine kA ?_ _)); exact BK106.out)) : gb107 ≠ gb106)); clear BK106; clear HB; have BK106 := n0_; have HB := n1_; have BK107 := n2_; have GW107 := n3_; have GE107 := n4_; have NB106_107 := n5_; have NB107_106 := n6_; clear n0_ n1_ n2_ n3_ n4_ n5_ n6_; clear hb hbox hg))
   have n0_ := Aside0.mk (kD BK106.out)
   have n1_ := Aside0.mk (kD BK107.out)
   have n2_ := Aside0.mk (kE HB.out)
   clear BK106
   clear BK107
   clear HB
   have BK106 := n0_
   have BK107 := n1_
   have HB := n2_
   clear n0_ n1_ n2_
   refine start_ (n := 9) (S := fun w' => w'.cell? ⟨gb106, 0, none⟩ = some (.int .i64 a1_0) ∧ w'.cell? ⟨gb106, 1, none⟩ = some (.int .i64 a1_1) ∧ w'.cell? ⟨gb106, 2, none⟩ = some (.int .u8 a1_2) ∧ w'.cell? ⟨gb106, 3, none⟩ = some (.int .i64 a1_3) ∧ w'.cell? ⟨gb106, 4, none⟩ = some (.int .i64 a1_4) ∧ w'.cell? ⟨gb106, 5, none⟩ = some (.int .i64 a1_5) ∧ w'.cell? ⟨gb106, 6, none⟩ = some (.int .i64 a1_6) ∧ w'.cell? ⟨gb106, 7, none⟩ = some (.bool a1_7)) (ds := []) #[false, false, false, false, false, false, false, false, false] (by kernel_rfl) rfl rfl ⟨(kC BK106.out 0).trans rfl, (kC BK106.out 1).trans rfl, (kC BK106.out 2).trans rfl, (kC BK106.out 3).trans rfl, (kC BK106.out 4).trans rfl, (kC BK106.out 5).trans rfl, (kC BK106.out 6).trans rfl, (kC BK106.out 7).trans rfl⟩ (fun hHeld => ?_); refine with_tabW paybookref12_Asks.tab1 paybookref12_Asks.bits1 (fun HT_ HW_ => ?_)
   generalize w24.drew = w25 at BK106 BK107 HB hHeld ⊢
   refine pure_ (i := 0) (N := some 7) (v := ?_) (a' := ?_) #[true, false, false, false, false, false, false, false, false] rfl rfl (any_of HT_.out (by kernel_rfl)) (fun _ _ _ h => h) (Or.inl ⟨by rfl, ?_⟩) ?_ ?_
   rotate_left
   ·intro w'
    go_simp
    with_reducible rfl
   rotate_left
   ·simp only [Act.put, List.setIfInBounds_toArray, List.set_cons_zero, List.set_cons_succ, i64_w, i32_w]
    rfl
   refine pure_ (i := 3) (N := some 10) (v := ?_) (a' := ?_) #[true, false, false, true, false, false, false, false, false] rfl rfl (any_of HT_.out (by kernel_rfl)) (fun _ _ _ h => h) (Or.inl ⟨by rfl, ?_⟩) ?_ ?_
   rotate_left
   ·intro w'
    go_simp
    with_reducible rfl
   rotate_left
   ·simp only [Act.put, List.setIfInBounds_toArray, List.set_cons_zero, List.set_cons_succ, i64_w, i32_w]
    rfl
   refine pure_ (i := 4) (N := some 11) (v := ?_) (a' := ?_) #[true, false, false, true, true, false, false, false, false] rfl rfl (any_of HT_.out (by kernel_rfl)) (fun _ _ _ h => h) (Or.inl ⟨by rfl, ?_⟩) ?_ ?_
   rotate_left
   ·intro w'
    go_simp
    with_reducible rfl
   rotate_left
   ·simp only [Act.put, List.setIfInBounds_toArray, List.set_cons_zero, List.set_cons_succ, i64_w, i32_w]
    rfl
   refine take_ (i := 1) (N := some 8) (v := ?_) (a' := ?_) #[true, true, false, true, true, false, false, false, false] rfl rfl (take_ofW HT_.out HW_.out (by kernel_rfl)) (fun _ _ _ h => h) (Or.inl ⟨by rfl, ?_⟩) hHeld ?_ ?_
   rotate_left
   ·rintro w' ⟨s0, s1, s2, s3, s4, s5, s6, s7⟩
    go_simp
    with_reducible rfl
   rotate_left
   ·simp only [Act.put, List.setIfInBounds_toArray, List.set_cons_zero, List.set_cons_succ, i64_w, i32_w]
    rfl
   refine take_ (i := 5) (N := some 12) (v := ?_) (a' := ?_) #[true, true, false, true, true, true, false, false, false] rfl rfl (take_ofW HT_.out HW_.out (by kernel_rfl)) (fun _ _ _ h => h) (Or.inl ⟨by rfl, ?_⟩) hHeld ?_ ?_
   rotate_left
   ·rintro w' ⟨s0, s1, s2, s3, s4, s5, s6, s7⟩
    go_simp
    with_reducible rfl
   rotate_left
   ·simp only [Act.put, List.setIfInBounds_toArray, List.set_cons_zero, List.set_cons_succ, i64_w, i32_w]
    rfl
   refine join_ (σ := Nat) 1 #[true, true, true, true, true, true, true, true, false] (fun s_ => [(9, .int .u8 t108), (6, .pointer (some ⟨s_, 0, none⟩)), (13, .agg #[.int .u8 t108, .int .i64 a0, .int .i64 a1_0, .int .i64 0, .int .i64 0, .int .u8 0])]) (fun s_ w' => (w'.cell? ⟨gb106, 0, none⟩ = some (.int .i64 a1_0) ∧ w'.cell? ⟨gb106, 1, none⟩ = some (.int .i64 a1_1) ∧ w'.cell? ⟨gb106, 2, none⟩ = some (.int .u8 a1_2) ∧ w'.cell? ⟨gb106, 3, none⟩ = some (.int .i64 a1_3) ∧ w'.cell? ⟨gb106, 4, none⟩ = some (.int .i64 a1_4) ∧ w'.cell? ⟨gb106, 5, none⟩ = some (.int .i64 a1_5) ∧ w'.cell? ⟨gb106, 6, none⟩ = some (.int .i64 a1_6) ∧ w'.cell? ⟨gb106, 7, none⟩ = some (.bool a1_7)) ∧ (w'.heap[gb106]? = some (.cells #[.int .i64 a1_0, .int .i64 a1_1, .int .u8 a1_2, .int .i64 a1_3, .int .i64 a1_4, .int .i64 a1_5, .int .i64 a1_6, .bool a1_7] 32 (0, 0))) ∧ (w'.heap[gb107]? = some (.cells #[.int .u8 0, .int .i64 0, .int .i64 0, .int .i64 0, .int .i64 0, .int .u8 0] 28 (0, 0))) ∧ (w'.heap[s_]? = some (.cells #[.int .u8 0, .int .i64 0, .int .i64 0, .int .i64 0, .int .i64 0, .int .u8 0] 28 (0, 0))) ∧ (w.heap.size ≤ s_) ∧ (w.heap.size ≤ s_) ∧ (gb106 ≠ s_) ∧ (s_ ≠ gb106) ∧ (gb107 ≠ s_) ∧ (s_ ≠ gb107) ∧ (Below w.heap.size w w')) ?_ ?_
   rotate_left
   ·intro hCont
    refine two_ (i := 2) (j := 7) (Ni := some 9) (Nj := some 6) #[true, true, true, true, true, true, false, false, false] #[true, true, false, true, true, true, false, true, false] rfl rfl rfl rfl (two_of HT_.out (by kernel_rfl)) (by decide) (by decide) (fun K hK => ?_) (fun K hK => ?_)
    ·skip
     refine goes_ Tryd.func28 (by kernel_rfl) rfl #[.int .u8 a1_2] (by rfl) rfl rfl (by (try simp only [List.map_toArray, List.map_cons, List.map_nil]); first | done | rfl | (simp only [List.length_drop, List.length_take]; rfl)) ?_
     with_reducible refine (paybookref12_Kind.calls a1_2 t108 _ A3.out).mono ?_
     rintro e w' ⟨rfl, ⟨nd, rfl⟩⟩
     refine ⟨_, rfl, ?_⟩
     refine hK.out _ _ ⟨(kC BK106.out 0).trans rfl, (kC BK106.out 1).trans rfl, (kC BK106.out 2).trans rfl, (kC BK106.out 3).trans rfl, (kC BK106.out 4).trans rfl, (kC BK106.out 5).trans rfl, (kC BK106.out 6).trans rfl, (kC BK106.out 7).trans rfl⟩ (fun hHeld => ?_)
     clear hK K
     refine norm_ (a' := ?_) ?_ ?_
     rotate_left
     ·show Act.put _ (some 9) _ = _
      simp only [Act.put, List.setIfInBounds_toArray, List.set_cons_zero, List.set_cons_succ, i64_w, i32_w]
      rfl
     refine pure_ (i := 6) (N := some 13) (v := ?_) (a' := ?_) #[true, true, true, true, true, true, true, false, false] rfl rfl (any_of HT_.out (by kernel_rfl)) (fun _ _ _ h => h) (Or.inl ⟨by rfl, ?_⟩) ?_ ?_
     rotate_left
     ·intro w'
      go_simp
      with_reducible rfl
     rotate_left
     ·simp only [Act.put, List.setIfInBounds_toArray, List.set_cons_zero, List.set_cons_succ, i64_w, i32_w]
      rfl
     refine one_ (i := 7) (N := some 6) #[true, true, true, true, true, true, true, true, false] rfl rfl (one_of HT_.out (by kernel_rfl)) (by decide) (fun K hK => ?_)
     refine box_step ?hg (N := 6) ?hd (cs := #[.int .u8 0, .int .i64 0, .int .i64 0, .int .i64 0, .int .i64 0, .int .u8 0]) (t := 28) ?hr ?_; (case hd => rfl); (case hg => rfl); (case hr => first | (go_simp; done) | (go_simp; rfl))
     intro gb109 hg w26 hbox hb
     have n0_ := Aside0.mk (blk_below (g := gb106) (o := .cells #[.int .i64 a1_0, .int .i64 a1_1, .int .u8 a1_2, .int .i64 a1_3, .int .i64 a1_4, .int .i64 a1_5, .int .i64 a1_6, .bool a1_7] 32 (0, 0)) (by (with_reducible repeat (first | refine kN ?_ _ | refine kD ?_ | refine kA ?_ _)); exact BK106.out) hb)
     have n1_ := Aside0.mk (blk_below (g := gb107) (o := .cells #[.int .u8 0, .int .i64 0, .int .i64 0, .int .i64 0, .int .i64 0, .int .u8 0] 28 (0, 0)) (by (with_reducible repeat (first | refine kN ?_ _ | refine kD ?_ | refine kA ?_ _)); exact BK107.out) hb)
     have n2_ := Aside0.mk (below_step (by repeat (first | (with_reducible first | exact HB.out | apply kL | apply kM | apply kE | refine kS ?_ GE106.out | refine kS ?_ GE107.out) | exact HB.out)) hb)
     have n3_ := Aside0.mk (hbox)
     have n4_ := Aside0.mk ((by rw [hg]; exact (below_size (by repeat (first | (with_reducible first | exact HB.out | apply kL | apply kM | apply kE | refine kS ?_ GE106.out | refine kS ?_ GE107.out) | exact HB.out))) : w.heap.size ≤ gb109))
     have n5_ := Aside0.mk ((by rw [hg]; exact (below_size (by repeat (first | (with_reducible first | exact HB.out | apply kL | apply kM | apply kE | refine kS ?_ GE106.out | refine kS ?_ GE107.out) | exact HB.out))) : w.heap.size ≤ gb109))
     have n6_ := Aside0.mk ((by rw [hg]; exact Nat.ne_of_lt (blk_lt (g := gb106) (o := .cells #[.int .i64 a1_0, .int .i64 a1_1, .int .u8 a1_2, .int .i64 a1_3, .int .i64 a1_4, .int .i64 a1_5, .int .i64 a1_6, .bool a1_7] 32 (0, 0)) (by (with_reducible repeat (first | refine kN ?_ _ | refine kD ?_ | refine kA ?_ _)); exact BK106.out)) : gb106 ≠ gb109))
     have n7_ := Aside0.mk ((by rw [hg]; exact Nat.ne_of_gt (blk_lt (g := gb106) (o := .cells #[.int .i64 a1_0, .int .i64 a1_1, .int .u8 a1_2, .int .i64 a1_3, .int .i64 a1_4, .int .i64 a1_5, .int .i64 a1_6, .bool a1_7] 32 (0, 0)) (by (with_reducible repeat (first | refine kN ?_ _ | refine kD ?_ | refine kA ?_ _)); exact BK106.out)) : gb109 ≠ gb106))
     have n8_ := Aside0.mk ((by rw [hg]; exact Nat.ne_of_lt (blk_lt (g := gb107) (o := .cells #[.int .u8 0, .int .i64 0, .int .i64 0, .int .i64 0, .int .i64 0, .int .u8 0] 28 (0, 0)) (by (with_reducible repeat (first | refine kN ?_ _ | refine kD ?_ | refine kA ?_ _)); exact BK107.out)) : gb107 ≠ gb109))
     have n9_ := Aside0.mk ((by rw [hg]; exact Nat.ne_of_gt (blk_lt (g := gb107) (o := .cells #[.int .u8 0, .int .i64 0, .int .i64 0, .int .i64 0, .int .i64 0, .int .u8 0] 28 (0, 0)) (by (with_reducible repeat (first | refine kN ?_ _ | refine kD ?_ | refine kA ?_ _)); exact BK107.out)) : gb109 ≠ gb107))
     clear BK106
     clear BK107
     clear HB
     have BK106 := n0_
     have BK107 := n1_
     have HB := n2_
     have BK109 := n3_
     have GW109 := n4_
     have GE109 := n5_
     have NB106_109 := n6_
     have NB109_106 := n7_
     have NB107_109 := n8_
     have NB109_107 := n9_
     clear n0_ n1_ n2_ n3_ n4_ n5_ n6_ n7_ n8_ n9_
     clear hb hbox hg
     refine hK.out _ _ ⟨(kC BK106.out 0).trans rfl, (kC BK106.out 1).trans rfl, (kC BK106.out 2).trans rfl, (kC BK106.out 3).trans rfl, (kC BK106.out 4).trans rfl, (kC BK106.out 5).trans rfl, (kC BK106.out 6).trans rfl, (kC BK106.out 7).trans rfl⟩ (fun hHeld => ?_)
     clear hK K
     refine norm_ (a' := ?_) ?_ ?_
     rotate_left
     ·show Act.put _ (some 6) _ = _
      simp only [Act.put, List.setIfInBounds_toArray, List.set_cons_zero, List.set_cons_succ, i64_w, i32_w]
      rfl
     exact norm_ (by simp only [putAll, Act.put, List.setIfInBounds_toArray, List.set_cons_zero, List.set_cons_succ]) (hCont (gb109) _ ⟨hHeld, (by (with_reducible repeat (first | refine kN ?_ _ | refine kD ?_ | refine kA ?_ _)); exact BK106.out), (by (with_reducible repeat (first | refine kN ?_ _ | refine kD ?_ | refine kA ?_ _)); exact BK107.out), (by (with_reducible repeat (first | refine kN ?_ _ | refine kD ?_ | refine kA ?_ _)); exact BK109.out), GW109.out, GE109.out, NB106_109.out, NB109_106.out, NB107_109.out, NB109_107.out, (by repeat (first | (with_reducible first | exact HB.out | apply kL | apply kM | apply kE | refine kS ?_ GE106.out | refine kS ?_ GE107.out | refine kS ?_ GE109.out) | exact HB.out))⟩)
    ·skip
     refine box_step ?hg (N := 6) ?hd (cs := #[.int .u8 0, .int .i64 0, .int .i64 0, .int .i64 0, .int .i64 0, .int .u8 0]) (t := 28) ?hr ?_; (case hd => rfl); (case hg => rfl); (case hr => first | (go_simp; done) | (go_simp; rfl))
     intro gb109 hg w26 hbox hb
     have n0_ := Aside0.mk (blk_below (g := gb106) (o := .cells #[.int .i64 a1_0, .int .i64 a1_1, .int .u8 a1_2, .int .i64 a1_3, .int .i64 a1_4, .int .i64 a1_5, .int .i64 a1_6, .bool a1_7] 32 (0, 0)) (by (with_reducible repeat (first | refine kN ?_ _ | refine kD ?_ | refine kA ?_ _)); exact BK106.out) hb)
     have n1_ := Aside0.mk (blk_below (g := gb107) (o := .cells #[.int .u8 0, .int .i64 0, .int .i64 0, .int .i64 0, .int .i64 0, .int .u8 0] 28 (0, 0)) (by (with_reducible repeat (first | refine kN ?_ _ | refine kD ?_ | refine kA ?_ _)); exact BK107.out) hb)
     have n2_ := Aside0.mk (below_step (by repeat (first | (with_reducible first | exact HB.out | apply kL | apply kM | apply kE | refine kS ?_ GE106.out | refine kS ?_ GE107.out) | exact HB.out)) hb)
     have n3_ := Aside0.mk (hbox)
     have n4_ := Aside0.mk ((by rw [hg]; exact (below_size (by repeat (first | (with_reducible first | exact HB.out | apply kL | apply kM | apply kE | refine kS ?_ GE106.out | refine kS ?_ GE107.out) | exact HB.out))) : w.heap.size ≤ gb109))
     have n5_ := Aside0.mk ((by rw [hg]; exact (below_size (by repeat (first | (with_reducible first | exact HB.out | apply kL | apply kM | apply kE | refine kS ?_ GE106.out | refine kS ?_ GE107.out) | exact HB.out))) : w.heap.size ≤ gb109))
     have n6_ := Aside0.mk ((by rw [hg]; exact Nat.ne_of_lt (blk_lt (g := gb106) (o := .cells #[.int .i64 a1_0, .int .i64 a1_1, .int .u8 a1_2, .int .i64 a1_3, .int .i64 a1_4, .int .i64 a1_5, .int .i64 a1_6, .bool a1_7] 32 (0, 0)) (by (with_reducible repeat (first | refine kN ?_ _ | refine kD ?_ | refine kA ?_ _)); exact BK106.out)) : gb106 ≠ gb109))
     have n7_ := Aside0.mk ((by rw [hg]; exact Nat.ne_of_gt (blk_lt (g := gb106) (o := .cells #[.int .i64 a1_0, .int .i64 a1_1, .int .u8 a1_2, .int .i64 a1_3, .int .i64 a1_4, .int .i64 a1_5, .int .i64 a1_6, .bool a1_7] 32 (0, 0)) (by (with_reducible repeat (first | refine kN ?_ _ | refine kD ?_ | refine kA ?_ _)); exact BK106.out)) : gb109 ≠ gb106))
     have n8_ := Aside0.mk ((by rw [hg]; exact Nat.ne_of_lt (blk_lt (g := gb107) (o := .cells #[.int .u8 0, .int .i64 0, .int .i64 0, .int .i64 0, .int .i64 0, .int .u8 0] 28 (0, 0)) (by (with_reducible repeat (first | refine kN ?_ _ | refine kD ?_ | refine kA ?_ _)); exact BK107.out)) : gb107 ≠ gb109))
     have n9_ := Aside0.mk ((by rw [hg]; exact Nat.ne_of_gt (blk_lt (g := gb107) (o := .cells #[.int .u8 0, .int .i64 0, .int .i64 0, .int .i64 0, .int .i64 0, .int .u8 0] 28 (0, 0)) (by (with_reducible repeat (first | refine kN ?_ _ | refine kD ?_ | refine kA ?_ _)); exact BK107.out)) : gb109 ≠ gb107))
     clear BK106
     clear BK107
     clear HB
     have BK106 := n0_
     have BK107 := n1_
     have HB := n2_
     have BK109 := n3_
     have GW109 := n4_
     have GE109 := n5_
     have NB106_109 := n6_
     have NB109_106 := n7_
     have NB107_109 := n8_
     have NB109_107 := n9_
     clear n0_ n1_ n2_ n3_ n4_ n5_ n6_ n7_ n8_ n9_
     clear hb hbox hg
     refine hK.out _ _ ⟨(kC BK106.out 0).trans rfl, (kC BK106.out 1).trans rfl, (kC BK106.out 2).trans rfl, (kC BK106.out 3).trans rfl, (kC BK106.out 4).trans rfl, (kC BK106.out 5).trans rfl, (kC BK106.out 6).trans rfl, (kC BK106.out 7).trans rfl⟩ (fun hHeld => ?_)
     clear hK K
     refine norm_ (a' := ?_) ?_ ?_
     rotate_left
     ·show Act.put _ (some 6) _ = _
      simp only [Act.put, List.setIfInBounds_toArray, List.set_cons_zero, List.set_cons_succ, i64_w, i32_w]
      rfl
     refine one_ (i := 2) (N := some 9) #[true, true, true, true, true, true, false, true, false] rfl rfl (one_of HT_.out (by kernel_rfl)) (by decide) (fun K hK => ?_)
     refine goes_ Tryd.func28 (by kernel_rfl) rfl #[.int .u8 a1_2] (by rfl) rfl rfl (by (try simp only [List.map_toArray, List.map_cons, List.map_nil]); first | done | rfl | (simp only [List.length_drop, List.length_take]; rfl)) ?_
     with_reducible refine (paybookref12_Kind.calls a1_2 t108 _ A3.out).mono ?_
     rintro e w' ⟨rfl, ⟨nd, rfl⟩⟩
     refine ⟨_, rfl, ?_⟩
     refine hK.out _ _ ⟨(kC BK106.out 0).trans rfl, (kC BK106.out 1).trans rfl, (kC BK106.out 2).trans rfl, (kC BK106.out 3).trans rfl, (kC BK106.out 4).trans rfl, (kC BK106.out 5).trans rfl, (kC BK106.out 6).trans rfl, (kC BK106.out 7).trans rfl⟩ (fun hHeld => ?_)
     clear hK K
     refine norm_ (a' := ?_) ?_ ?_
     rotate_left
     ·show Act.put _ (some 9) _ = _
      simp only [Act.put, List.setIfInBounds_toArray, List.set_cons_zero, List.set_cons_succ, i64_w, i32_w]
      rfl
     refine pure_ (i := 6) (N := some 13) (v := ?_) (a' := ?_) #[true, true, true, true, true, true, true, true, false] rfl rfl (any_of HT_.out (by kernel_rfl)) (fun _ _ _ h => h) (Or.inl ⟨by rfl, ?_⟩) ?_ ?_
     rotate_left
     ·intro w'
      go_simp
      with_reducible rfl
     rotate_left
     ·simp only [Act.put, List.setIfInBounds_toArray, List.set_cons_zero, List.set_cons_succ, i64_w, i32_w]
      rfl
     exact norm_ (by simp only [putAll, Act.put, List.setIfInBounds_toArray, List.set_cons_zero, List.set_cons_succ]) (hCont (gb109) _ ⟨hHeld, (by (with_reducible repeat (first | refine kN ?_ _ | refine kD ?_ | refine kA ?_ _)); exact BK106.out), (by (with_reducible repeat (first | refine kN ?_ _ | refine kD ?_ | refine kA ?_ _)); exact BK107.out), (by (with_reducible repeat (first | refine kN ?_ _ | refine kD ?_ | refine kA ?_ _)); exact BK109.out), GW109.out, GE109.out, NB106_109.out, NB109_106.out, NB107_109.out, NB109_107.out, (by repeat (first | (with_reducible first | exact HB.out | apply kL | apply kM | apply kE | refine kS ?_ GE106.out | refine kS ?_ GE107.out | refine kS ?_ GE109.out) | exact HB.out))⟩)
   rintro gb109 w27 ⟨hS_, h0_, h1_, h2_, h3_, h4_, h5_, h6_, h7_, h8_, h9_⟩
   have n0_ : Aside0 (w27.heap[gb106]? = some (.cells #[.int .i64 a1_0, .int .i64 a1_1, .int .u8 a1_2, .int .i64 a1_3, .int .i64 a1_4, .int .i64 a1_5, .int .i64 a1_6, .bool a1_7] 32 (0, 0))) := ⟨h0_⟩
   have n1_ : Aside0 (w27.heap[gb107]? = some (.cells #[.int .u8 0, .int .i64 0, .int .i64 0, .int .i64 0, .int .i64 0, .int .u8 0] 28 (0, 0))) := ⟨h1_⟩
   have n2_ : Aside0 (w27.heap[gb109]? = some (.cells #[.int .u8 0, .int .i64 0, .int .i64 0, .int .i64 0, .int .i64 0, .int .u8 0] 28 (0, 0))) := ⟨h2_⟩
   have n3_ : Aside0 (w.heap.size ≤ gb109) := ⟨h3_⟩
   have n4_ : Aside0 (w.heap.size ≤ gb109) := ⟨h4_⟩
   have n5_ : Aside0 (gb106 ≠ gb109) := ⟨h5_⟩
   have n6_ : Aside0 (gb109 ≠ gb106) := ⟨h6_⟩
   have n7_ : Aside0 (gb107 ≠ gb109) := ⟨h7_⟩
   have n8_ : Aside0 (gb109 ≠ gb107) := ⟨h8_⟩
   have n9_ : Aside0 (Below w.heap.size w w27) := ⟨h9_⟩
   clear BK106
   clear BK107
   clear HB
   clear h0_ h1_ h2_ h3_ h4_ h5_ h6_ h7_ h8_ h9_
   have BK106 := n0_
   have BK107 := n1_
   have BK109 := n2_
   have GW109 := n3_
   have GE109 := n4_
   have NB106_109 := n5_
   have NB109_106 := n6_
   have NB107_109 := n7_
   have NB109_107 := n8_
   have HB := n9_
   clear n0_ n1_ n2_ n3_ n4_ n5_ n6_ n7_ n8_ n9_
   have hHeld : w27.cell? ⟨gb106, 0, none⟩ = some (.int .i64 a1_0) ∧ w27.cell? ⟨gb106, 1, none⟩ = some (.int .i64 a1_1) ∧ w27.cell? ⟨gb106, 2, none⟩ = some (.int .u8 a1_2) ∧ w27.cell? ⟨gb106, 3, none⟩ = some (.int .i64 a1_3) ∧ w27.cell? ⟨gb106, 4, none⟩ = some (.int .i64 a1_4) ∧ w27.cell? ⟨gb106, 5, none⟩ = some (.int .i64 a1_5) ∧ w27.cell? ⟨gb106, 6, none⟩ = some (.int .i64 a1_6) ∧ w27.cell? ⟨gb106, 7, none⟩ = some (.bool a1_7) := hS_
   refine norm_ (a' := ?_) ?_ ?_
   rotate_left
   ·simp only [putAll, Act.put, List.setIfInBounds_toArray, List.set_cons_zero, List.set_cons_succ]
    rfl
   refine one_ (i := 8) (N := none) #[true, true, true, true, true, true, true, true, true] rfl rfl (one_of HT_.out (by kernel_rfl)) (by decide) (fun K hK => ?_)
   have hs28 : w27.cell? ⟨gb109, 0, none⟩ = some (.int .u8 0) := (kC BK109.out 0).trans rfl
   have hfs28 := kF BK109.out 0
   have hns28_0 := NB106_109.out
   have hns28_1 := NB107_109.out
   have hms28_0 := NB109_106.out
   have hms28_1 := NB109_107.out
   have hs29 : w27.cell? ⟨gb109, 1, none⟩ = some (.int .i64 0) := (kC BK109.out 1).trans rfl
   have hfs29 := kF BK109.out 1
   have hns29_0 := NB106_109.out
   have hns29_1 := NB107_109.out
   have hms29_0 := NB109_106.out
   have hms29_1 := NB109_107.out
   have hs30 : w27.cell? ⟨gb109, 2, none⟩ = some (.int .i64 0) := (kC BK109.out 2).trans rfl
   have hfs30 := kF BK109.out 2
   have hns30_0 := NB106_109.out
   have hns30_1 := NB107_109.out
   have hms30_0 := NB109_106.out
   have hms30_1 := NB109_107.out
   have hs31 : w27.cell? ⟨gb109, 3, none⟩ = some (.int .i64 0) := (kC BK109.out 3).trans rfl
   have hfs31 := kF BK109.out 3
   have hns31_0 := NB106_109.out
   have hns31_1 := NB107_109.out
   have hms31_0 := NB109_106.out
   have hms31_1 := NB109_107.out
   have hs32 : w27.cell? ⟨gb109, 4, none⟩ = some (.int .i64 0) := (kC BK109.out 4).trans rfl
   have hfs32 := kF BK109.out 4
   have hns32_0 := NB106_109.out
   have hns32_1 := NB107_109.out
   have hms32_0 := NB109_106.out
   have hms32_1 := NB109_107.out
   have hs33 : w27.cell? ⟨gb109, 5, none⟩ = some (.int .u8 0) := (kC BK109.out 5).trans rfl
   have hfs33 := kF BK109.out 5
   have hns33_0 := NB106_109.out
   have hns33_1 := NB107_109.out
   have hms33_0 := NB109_106.out
   have hms33_1 := NB109_107.out
   refine skip_ (w1 := ?_) (by rfl) rfl ?_ ?_
   rotate_left
   ·go_simp
    rfl
   refine hK.out _ _ ⟨((cell_far (p := ⟨gb109, _, none⟩) NB106_109.out _).trans (((cell_far (p := ⟨gb109, _, none⟩) NB106_109.out _).trans (((cell_far (p := ⟨gb109, _, none⟩) NB106_109.out _).trans (((cell_far (p := ⟨gb109, _, none⟩) NB106_109.out _).trans (((cell_far (p := ⟨gb109, _, none⟩) NB106_109.out _).trans (((cell_far (p := ⟨gb109, _, none⟩) NB106_109.out _).trans (hHeld.1)))))))))))), ((cell_far (p := ⟨gb109, _, none⟩) NB106_109.out _).trans (((cell_far (p := ⟨gb109, _, none⟩) NB106_109.out _).trans (((cell_far (p := ⟨gb109, _, none⟩) NB106_109.out _).trans (((cell_far (p := ⟨gb109, _, none⟩) NB106_109.out _).trans (((cell_far (p := ⟨gb109, _, none⟩) NB106_109.out _).trans (((cell_far (p := ⟨gb109, _, none⟩) NB106_109.out _).trans (hHeld.2.1)))))))))))), ((cell_far (p := ⟨gb109, _, none⟩) NB106_109.out _).trans (((cell_far (p := ⟨gb109, _, none⟩) NB106_109.out _).trans (((cell_far (p := ⟨gb109, _, none⟩) NB106_109.out _).trans (((cell_far (p := ⟨gb109, _, none⟩) NB106_109.out _).trans (((cell_far (p := ⟨gb109, _, none⟩) NB106_109.out _).trans (((cell_far (p := ⟨gb109, _, none⟩) NB106_109.out _).trans (hHeld.2.2.1)))))))))))), ((cell_far (p := ⟨gb109, _, none⟩) NB106_109.out _).trans (((cell_far (p := ⟨gb109, _, none⟩) NB106_109.out _).trans (((cell_far (p := ⟨gb109, _, none⟩) NB106_109.out _).trans (((cell_far (p := ⟨gb109, _, none⟩) NB106_109.out _).trans (((cell_far (p := ⟨gb109, _, none⟩) NB106_109.out _).trans (((cell_far (p := ⟨gb109, _, none⟩) NB106_109.out _).trans (hHeld.2.2.2.1)))))))))))), ((cell_far (p := ⟨gb109, _, none⟩) NB106_109.out _).trans (((cell_far (p := ⟨gb109, _, none⟩) NB106_109.out _).trans (((cell_far (p := ⟨gb109, _, none⟩) NB106_109.out _).trans (((cell_far (p := ⟨gb109, _, none⟩) NB106_109.out _).trans (((cell_far (p := ⟨gb109, _, none⟩) NB106_109.out _).trans (((cell_far (p := ⟨gb109, _, none⟩) NB106_109.out _).trans (hHeld.2.2.2.2.1)))))))))))), ((cell_far (p := ⟨gb109, _, none⟩) NB106_109.out _).trans (((cell_far (p := ⟨gb109, _, none⟩) NB106_109.out _).trans (((cell_far (p := ⟨gb109, _, none⟩) NB106_109.out _).trans (((cell_far (p := ⟨gb109, _, none⟩) NB106_109.out _).trans (((cell_far (p := ⟨gb109, _, none⟩) NB106_109.out _).trans (((cell_far (p := ⟨gb109, _, none⟩) NB106_109.out _).trans (hHeld.2.2.2.2.2.1)))))))))))), ((cell_far (p := ⟨gb109, _, none⟩) NB106_109.out _).trans (((cell_far (p := ⟨gb109, _, none⟩) NB106_109.out _).trans (((cell_far (p := ⟨gb109, _, none⟩) NB106_109.out _).trans (((cell_far (p := ⟨gb109, _, none⟩) NB106_109.out _).trans (((cell_far (p := ⟨gb109, _, none⟩) NB106_109.out _).trans (((cell_far (p := ⟨gb109, _, none⟩) NB106_109.out _).trans (hHeld.2.2.2.2.2.2.1)))))))))))), ((cell_far (p := ⟨gb109, _, none⟩) NB106_109.out _).trans (((cell_far (p := ⟨gb109, _, none⟩) NB106_109.out _).trans (((cell_far (p := ⟨gb109, _, none⟩) NB106_109.out _).trans (((cell_far (p := ⟨gb109, _, none⟩) NB106_109.out _).trans (((cell_far (p := ⟨gb109, _, none⟩) NB106_109.out _).trans (((cell_far (p := ⟨gb109, _, none⟩) NB106_109.out _).trans (hHeld.2.2.2.2.2.2.2))))))))))))⟩ (fun hHeld => ?_)
   clear hK K
   refine done_ (done_of HT_.out (by kernel_rfl)) ?_
   have hnb34 := NB109_106.out
   have hnc34 := NB106_109.out
   have hnb35 := NB109_107.out
   have hnc35 := NB107_109.out
   obtain ⟨hcz36_0, hcz36_1, hcz36_2, hcz36_3, hcz36_4, hcz36_5, hfz36_0, hfz36_1, hfz36_2, hfz36_3, hfz36_4, hfz36_5⟩ := bxc6 BK109.out
   have hnb37 := NB106_107.out
   have hnc37 := NB107_106.out
   obtain ⟨hcz38_0, hcz38_1, hcz38_2, hcz38_3, hcz38_4, hcz38_5, hcz38_6, hcz38_7, hfz38_0, hfz38_1, hfz38_2, hfz38_3, hfz38_4, hfz38_5, hfz38_6, hfz38_7⟩ := bxc8 BK106.out
   obtain ⟨hcz39_0, hcz39_1, hcz39_2, hcz39_3, hcz39_4, hcz39_5, hfz39_0, hfz39_1, hfz39_2, hfz39_3, hfz39_4, hfz39_5⟩ := bxc6 BK107.out
   try go_wp2_with (first | ((with_reducible refine gate_dst (N := 35) rfl ?_); refine wpList_load_row rfl 28 (.tmp 6) rfl gb109 rfl 28 #[.int .u8 t108, .int .i64 a0, .int .i64 a1_0, .int .i64 a1_5, .int .i64 a1_3, .int .u8 0] (0, 0) _ (by (with_reducible repeat (first | refine kN ?_ _ | refine kD ?_ | refine kA ?_ _)); refine bxp6_4 (o := .int .i64 0) ?_; (with_reducible repeat (first | refine kN ?_ _ | refine kD ?_ | refine kA ?_ _)); refine bxp6_3 (o := .int .i64 0) ?_; (with_reducible repeat (first | refine kN ?_ _ | refine kD ?_ | refine kA ?_ _)); refine bxw6 (.int .u8 0) (.int .i64 0) (.int .i64 0) (.int .i64 0) (.int .i64 0) (.int .u8 0) ?_; (with_reducible repeat (first | refine kN ?_ _ | refine kD ?_ | refine kA ?_ _)); exact BK109.out) Tryd.underlying28 rfl (by kernel_rfl) ?_) | ((with_reducible refine gate_store (t := 28) (p := 4) rfl ?_); refine rec_event (t := 28) (p := 4) (v := ?vo_w40) (g := gb107) (t' := 28) #[.int .u8 0, .int .i64 0, .int .i64 0, .int .i64 0, .int .i64 0, .int .u8 0] #[.int .u8 t108, .int .i64 a0, .int .i64 a1_0, .int .i64 a1_5, .int .i64 a1_3, .int .u8 0] ?hg ?ho ?hn ?hx ?hy ?hb (by rfl) (by kernel_rfl) (by kernel_rfl) ?_; (case ho => rfl); (case hg => rfl); (case hn => rfl); (case hx => rfl); (case hy => rfl); (case hb => exact by (with_reducible repeat (first | refine kN ?_ _ | refine kD ?_ | refine kA ?_ _ | refine kR ?_ NB107_109.out _)); (with_reducible repeat (first | refine kN ?_ _ | refine kD ?_ | refine kA ?_ _)); exact BK107.out); intro w40 hblk hoth hbel; have n0_ : Aside0 (w40.heap[gb106]? = some (.cells #[.int .i64 a1_0, .int .i64 a1_1, .int .u8 a1_2, .int .i64 a1_3, .int .i64 a1_4, .int .i64 a1_5, .int .i64 a1_6, .bool a1_7] 32 (0, 0))) := ⟨(hoth gb106 NB106_107.out).trans (by (with_reducible repeat (first | refine kN ?_ _ | refine kD ?_ | refine kA ?_ _ | refine kR ?_ NB106_109.out _)); (with_reducible repeat (first | refine kN ?_ _ | refine kD ?_ | refine kA ?_ _)); exact BK106.out)⟩; have n1_ : Aside0 (w40.heap[gb107]? = some (.cells #[.int .u8 t108, .int .i64 a0, .int .i64 a1_0, .int .i64 a1_5, .int .i64 a1_3, .int .u8 0] 28 (0, 0))) := ⟨hblk⟩; have n2_ : Aside0 (w40.heap[gb109]? = some (.cells #[.int .u8 t108, .int .i64 a0, .int .i64 a1_0, .int .i64 a1_5, .int .i64 a1_3, .int .u8 0] 28 (0, 0))) := ⟨(hoth gb109 NB109_107.out).trans (by (with_reducible repeat (first | refine kN ?_ _ | refine kD ?_ | refine kA ?_ _)); refine bxp6_4 (o := .int .i64 0) ?_; (with_reducible repeat (first | refine kN ?_ _ | refine kD ?_ | refine kA ?_ _)); refine bxp6_3 (o := .int .i64 0) ?_; (with_reducible repeat (first | refine kN ?_ _ | refine kD ?_ | refine kA ?_ _)); refine bxw6 (.int .u8 0) (.int .i64 0) (.int .i64 0) (.int .i64 0) (.int .i64 0) (.int .u8 0) ?_; (with_reducible repeat (first | refine kN ?_ _ | refine kD ?_ | refine kA ?_ _)); exact BK109.out)⟩; have n3_ : Aside0 (Below w.heap.size w w40) := ⟨Below.trans (by repeat (first | (with_reducible first | exact HB.out | apply kL | apply kM | apply kE | refine kS ?_ GE106.out | refine kS ?_ GE107.out | refine kS ?_ GE109.out) | exact HB.out)) (hbel _ GE107.out)⟩; clear hblk hoth hbel; clear BK106; clear BK107; clear BK109; clear HB; have BK106 := n0_; have BK107 := n1_; have BK109 := n2_; have HB := n3_; clear n0_ n1_ n2_ n3_))
   refine bodyPost_ret (results_ct rfl _ _ gb107 28 #[.int .u8 t108, .int .i64 a0, .int .i64 a1_0, .int .i64 a1_5, .int .i64 a1_3, .int .u8 0] (0, 0) _ rfl (by (with_reducible repeat (first | refine kN ?_ _ | refine kD ?_ | refine kA ?_ _)); exact BK107.out) Tryd.underlying28 rfl (by kernel_rfl)) rfl ?_
   exact ⟨by first | rfl | (simp [errW_none, errW_some] <;> rfl) | (simp [*, errW_none, errW_some] <;> rfl), by repeat (first | (with_reducible first | exact HB.out | apply kL | apply kM | apply kE | refine kS ?_ GE106.out | refine kS ?_ GE107.out | refine kS ?_ GE109.out) | exact HB.out)⟩
  ·rw [if_neg c22] at H
   have c22b0 : (t108 == 1) = false := beq_eq_false_iff_ne.mpr c22
   have c22b1 : (t108 != 1) = true := bne_iff_ne.mpr c22
   by_cases c41 : t108 = 2
   ·rw [if_pos c41] at H
    have c41b0 : (t108 == 2) = true := beq_iff_eq.mpr c41
    have c41b1 : (t108 != 2) = false := bne_eq_false_iff_eq.mpr c41
    clear c41
    simp only [Option.some.injEq, Prod.mk.injEq] at H
    obtain ⟨rfl, rfl, rfl, rfl, rfl, rfl, rfl⟩ := H
    go_enter Tryd.func14, Tryd.ntmps14
    try go_wp2_with (first | ((with_reducible refine gate_dst (N := 3) rfl ?_); refine box_event ?hg (N := 3) ?hd (cs := #[.int .i64 a1_0, .int .i64 a1_1, .int .u8 a1_2, .int .i64 a1_3, .int .i64 a1_4, .int .i64 a1_5, .int .i64 a1_6, .bool a1_7]) (t := 32) ?hr ?_; (case hd => rfl); (case hg => rfl); (case hr => first | (go_simp; done) | (go_simp; rfl)); intro gb106 hg w42 hbox hb; have n0_ := Aside0.mk (below_step (by repeat (first | (with_reducible first | exact HB.out | apply kL | apply kM | apply kE) | exact HB.out)) hb); have n1_ := Aside0.mk (hbox); have n2_ := Aside0.mk ((by rw [hg]; exact (below_size (by repeat (first | (with_reducible first | exact HB.out | apply kL | apply kM | apply kE) | exact HB.out))) : w.heap.size ≤ gb106)); have n3_ := Aside0.mk ((by rw [hg]; exact (below_size (by repeat (first | (with_reducible first | exact HB.out | apply kL | apply kM | apply kE) | exact HB.out))) : w.heap.size ≤ gb106)); clear HB; have HB := n0_; have BK106 := n1_; have GW106 := n2_; have GE106 := n3_; clear n0_ n1_ n2_ n3_; clear hb hbox hg) | ((with_reducible refine gate_dst (N := 4) rfl ?_); refine box_event ?hg (N := 4) ?hd (cs := #[.int .u8 0, .int .i64 0, .int .i64 0, .int .i64 0, .int .i64 0, .int .u8 0]) (t := 28) ?hr ?_; (case hd => rfl); (case hg => rfl); (case hr => first | (go_simp; done) | (go_simp; rfl)); intro gb107 hg w43 hbox hb; have n0_ := Aside0.mk (blk_below (g := gb106) (o := .cells #[.int .i64 a1_0, .int .i64 a1_1, .int .u8 a1_2, .int .i64 a1_3, .int .i64 a1_4, .int .i64 a1_5, .int .i64 a1_6, .bool a1_7] 32 (0, 0)) (by (with_reducible repeat (first | refine kN ?_ _ | refine kD ?_ | refine kA ?_ _)); exact BK106.out) hb); have n1_ := Aside0.mk (below_step (by repeat (first | (with_reducible first | exact HB.out | apply kL | apply kM | apply kE | refine kS ?_ GE106.out) | exact HB.out)) hb); have n2_ := Aside0.mk (hbox); have n3_ := Aside0.mk ((by rw [hg]; exact (below_size (by repeat (first | (with_reducible first | exact HB.out | apply kL | apply kM | apply kE | refine kS ?_ GE106.out) | exact HB.out))) : w.heap.size ≤ gb107)); have n4_ := Aside0.mk ((by rw [hg]; exact (below_size (by repeat (first | (with_reducible first | exact HB.out | apply kL | apply kM | apply kE | refine kS ?_ GE106.out) | exact HB.out))) : w.heap.size ≤ gb107)); have n5_ := Aside0.mk ((by rw [hg]; exact Nat.ne_of_lt (blk_lt (g := gb106) (o := .cells #[.int .i64 a1_0, .int .i64 a1_1, .int .u8 a1_2, .int .i64 a1_3, .int .i64 a1_4, .int .i64 a1_5, .int .i64 a1_6, .bool a1_7] 32 (0, 0)) (by (with_reducible repeat (first | refine kN ?_ _ | refine kD ?_ | refine kA ?_ _)); exact BK106.out)) : gb106 ≠ gb107)); have n6_ := Aside0.mk ((by rw [hg]; exact Nat.ne_of_gt (blk_lt (g := gb106) (o := .cells #[.int .i64 a1_0, .int .i64 a1_1, .int .u8 a1_2, .int .i64 a1_3, .int .i64 a1_4, .int .i64 a1_5, .int .i64 a1_6, .bool a1_7] 32 (0, 0)) (by (with_reducible repeat (first | refine kN ?_ _ | refine kD ?_ | refine kA ?_ _)); exact BK106.out)) : gb107 ≠ gb106)); clear BK106; clear HB; have BK106 := n0_; have HB := n1_; have BK107 := n2_; have GW107 := n3_; have GE107 := n4_; have NB106_107 := n5_; have NB107_106 := n6_; clear n0_ n1_ n2_ n3_ n4_ n5_ n6_; clear hb hbox hg))
    have n0_ := Aside0.mk (kD BK106.out)
    have n1_ := Aside0.mk (kD BK107.out)
    have n2_ := Aside0.mk (kE HB.out)
    clear BK106
    clear BK107
    clear HB
    have BK106 := n0_
    have BK107 := n1_
    have HB := n2_
    clear n0_ n1_ n2_
    refine start_ (n := 9) (S := fun w' => w'.cell? ⟨gb106, 0, none⟩ = some (.int .i64 a1_0) ∧ w'.cell? ⟨gb106, 1, none⟩ = some (.int .i64 a1_1) ∧ w'.cell? ⟨gb106, 2, none⟩ = some (.int .u8 a1_2) ∧ w'.cell? ⟨gb106, 3, none⟩ = some (.int .i64 a1_3) ∧ w'.cell? ⟨gb106, 4, none⟩ = some (.int .i64 a1_4) ∧ w'.cell? ⟨gb106, 5, none⟩ = some (.int .i64 a1_5) ∧ w'.cell? ⟨gb106, 6, none⟩ = some (.int .i64 a1_6) ∧ w'.cell? ⟨gb106, 7, none⟩ = some (.bool a1_7)) (ds := []) #[false, false, false, false, false, false, false, false, false] (by kernel_rfl) rfl rfl ⟨(kC BK106.out 0).trans rfl, (kC BK106.out 1).trans rfl, (kC BK106.out 2).trans rfl, (kC BK106.out 3).trans rfl, (kC BK106.out 4).trans rfl, (kC BK106.out 5).trans rfl, (kC BK106.out 6).trans rfl, (kC BK106.out 7).trans rfl⟩ (fun hHeld => ?_); refine with_tabW paybookref12_Asks.tab1 paybookref12_Asks.bits1 (fun HT_ HW_ => ?_)
    generalize w43.drew = w44 at BK106 BK107 HB hHeld ⊢
    refine pure_ (i := 0) (N := some 7) (v := ?_) (a' := ?_) #[true, false, false, false, false, false, false, false, false] rfl rfl (any_of HT_.out (by kernel_rfl)) (fun _ _ _ h => h) (Or.inl ⟨by rfl, ?_⟩) ?_ ?_
    rotate_left
    ·intro w'
     go_simp
     with_reducible rfl
    rotate_left
    ·simp only [Act.put, List.setIfInBounds_toArray, List.set_cons_zero, List.set_cons_succ, i64_w, i32_w]
     rfl
    refine pure_ (i := 3) (N := some 10) (v := ?_) (a' := ?_) #[true, false, false, true, false, false, false, false, false] rfl rfl (any_of HT_.out (by kernel_rfl)) (fun _ _ _ h => h) (Or.inl ⟨by rfl, ?_⟩) ?_ ?_
    rotate_left
    ·intro w'
     go_simp
     with_reducible rfl
    rotate_left
    ·simp only [Act.put, List.setIfInBounds_toArray, List.set_cons_zero, List.set_cons_succ, i64_w, i32_w]
     rfl
    refine pure_ (i := 4) (N := some 11) (v := ?_) (a' := ?_) #[true, false, false, true, true, false, false, false, false] rfl rfl (any_of HT_.out (by kernel_rfl)) (fun _ _ _ h => h) (Or.inl ⟨by rfl, ?_⟩) ?_ ?_
    rotate_left
    ·intro w'
     go_simp
     with_reducible rfl
    rotate_left
    ·simp only [Act.put, List.setIfInBounds_toArray, List.set_cons_zero, List.set_cons_succ, i64_w, i32_w]
     rfl
    refine take_ (i := 1) (N := some 8) (v := ?_) (a' := ?_) #[true, true, false, true, true, false, false, false, false] rfl rfl (take_ofW HT_.out HW_.out (by kernel_rfl)) (fun _ _ _ h => h) (Or.inl ⟨by rfl, ?_⟩) hHeld ?_ ?_
    rotate_left
    ·rintro w' ⟨s0, s1, s2, s3, s4, s5, s6, s7⟩
     go_simp
     with_reducible rfl
    rotate_left
    ·simp only [Act.put, List.setIfInBounds_toArray, List.set_cons_zero, List.set_cons_succ, i64_w, i32_w]
     rfl
    refine take_ (i := 5) (N := some 12) (v := ?_) (a' := ?_) #[true, true, false, true, true, true, false, false, false] rfl rfl (take_ofW HT_.out HW_.out (by kernel_rfl)) (fun _ _ _ h => h) (Or.inl ⟨by rfl, ?_⟩) hHeld ?_ ?_
    rotate_left
    ·rintro w' ⟨s0, s1, s2, s3, s4, s5, s6, s7⟩
     go_simp
     with_reducible rfl
    rotate_left
    ·simp only [Act.put, List.setIfInBounds_toArray, List.set_cons_zero, List.set_cons_succ, i64_w, i32_w]
     rfl
    refine join_ (σ := Nat) 1 #[true, true, true, true, true, true, true, true, false] (fun s_ => [(9, .int .u8 t108), (6, .pointer (some ⟨s_, 0, none⟩)), (13, .agg #[.int .u8 t108, .int .i64 a0, .int .i64 a1_0, .int .i64 0, .int .i64 0, .int .u8 0])]) (fun s_ w' => (w'.cell? ⟨gb106, 0, none⟩ = some (.int .i64 a1_0) ∧ w'.cell? ⟨gb106, 1, none⟩ = some (.int .i64 a1_1) ∧ w'.cell? ⟨gb106, 2, none⟩ = some (.int .u8 a1_2) ∧ w'.cell? ⟨gb106, 3, none⟩ = some (.int .i64 a1_3) ∧ w'.cell? ⟨gb106, 4, none⟩ = some (.int .i64 a1_4) ∧ w'.cell? ⟨gb106, 5, none⟩ = some (.int .i64 a1_5) ∧ w'.cell? ⟨gb106, 6, none⟩ = some (.int .i64 a1_6) ∧ w'.cell? ⟨gb106, 7, none⟩ = some (.bool a1_7)) ∧ (w'.heap[gb106]? = some (.cells #[.int .i64 a1_0, .int .i64 a1_1, .int .u8 a1_2, .int .i64 a1_3, .int .i64 a1_4, .int .i64 a1_5, .int .i64 a1_6, .bool a1_7] 32 (0, 0))) ∧ (w'.heap[gb107]? = some (.cells #[.int .u8 0, .int .i64 0, .int .i64 0, .int .i64 0, .int .i64 0, .int .u8 0] 28 (0, 0))) ∧ (w'.heap[s_]? = some (.cells #[.int .u8 0, .int .i64 0, .int .i64 0, .int .i64 0, .int .i64 0, .int .u8 0] 28 (0, 0))) ∧ (w.heap.size ≤ s_) ∧ (w.heap.size ≤ s_) ∧ (gb106 ≠ s_) ∧ (s_ ≠ gb106) ∧ (gb107 ≠ s_) ∧ (s_ ≠ gb107) ∧ (Below w.heap.size w w')) ?_ ?_
    rotate_left
    ·intro hCont
     refine two_ (i := 2) (j := 7) (Ni := some 9) (Nj := some 6) #[true, true, true, true, true, true, false, false, false] #[true, true, false, true, true, true, false, true, false] rfl rfl rfl rfl (two_of HT_.out (by kernel_rfl)) (by decide) (by decide) (fun K hK => ?_) (fun K hK => ?_)
     ·skip
      refine goes_ Tryd.func28 (by kernel_rfl) rfl #[.int .u8 a1_2] (by rfl) rfl rfl (by (try simp only [List.map_toArray, List.map_cons, List.map_nil]); first | done | rfl | (simp only [List.length_drop, List.length_take]; rfl)) ?_
      with_reducible refine (paybookref12_Kind.calls a1_2 t108 _ A3.out).mono ?_
      rintro e w' ⟨rfl, ⟨nd, rfl⟩⟩
      refine ⟨_, rfl, ?_⟩
      refine hK.out _ _ ⟨(kC BK106.out 0).trans rfl, (kC BK106.out 1).trans rfl, (kC BK106.out 2).trans rfl, (kC BK106.out 3).trans rfl, (kC BK106.out 4).trans rfl, (kC BK106.out 5).trans rfl, (kC BK106.out 6).trans rfl, (kC BK106.out 7).trans rfl⟩ (fun hHeld => ?_)
      clear hK K
      refine norm_ (a' := ?_) ?_ ?_
      rotate_left
      ·show Act.put _ (some 9) _ = _
       simp only [Act.put, List.setIfInBounds_toArray, List.set_cons_zero, List.set_cons_succ, i64_w, i32_w]
       rfl
      refine pure_ (i := 6) (N := some 13) (v := ?_) (a' := ?_) #[true, true, true, true, true, true, true, false, false] rfl rfl (any_of HT_.out (by kernel_rfl)) (fun _ _ _ h => h) (Or.inl ⟨by rfl, ?_⟩) ?_ ?_
      rotate_left
      ·intro w'
       go_simp
       with_reducible rfl
      rotate_left
      ·simp only [Act.put, List.setIfInBounds_toArray, List.set_cons_zero, List.set_cons_succ, i64_w, i32_w]
       rfl
      refine one_ (i := 7) (N := some 6) #[true, true, true, true, true, true, true, true, false] rfl rfl (one_of HT_.out (by kernel_rfl)) (by decide) (fun K hK => ?_)
      refine box_step ?hg (N := 6) ?hd (cs := #[.int .u8 0, .int .i64 0, .int .i64 0, .int .i64 0, .int .i64 0, .int .u8 0]) (t := 28) ?hr ?_; (case hd => rfl); (case hg => rfl); (case hr => first | (go_simp; done) | (go_simp; rfl))
      intro gb109 hg w45 hbox hb
      have n0_ := Aside0.mk (blk_below (g := gb106) (o := .cells #[.int .i64 a1_0, .int .i64 a1_1, .int .u8 a1_2, .int .i64 a1_3, .int .i64 a1_4, .int .i64 a1_5, .int .i64 a1_6, .bool a1_7] 32 (0, 0)) (by (with_reducible repeat (first | refine kN ?_ _ | refine kD ?_ | refine kA ?_ _)); exact BK106.out) hb)
      have n1_ := Aside0.mk (blk_below (g := gb107) (o := .cells #[.int .u8 0, .int .i64 0, .int .i64 0, .int .i64 0, .int .i64 0, .int .u8 0] 28 (0, 0)) (by (with_reducible repeat (first | refine kN ?_ _ | refine kD ?_ | refine kA ?_ _)); exact BK107.out) hb)
      have n2_ := Aside0.mk (below_step (by repeat (first | (with_reducible first | exact HB.out | apply kL | apply kM | apply kE | refine kS ?_ GE106.out | refine kS ?_ GE107.out) | exact HB.out)) hb)
      have n3_ := Aside0.mk (hbox)
      have n4_ := Aside0.mk ((by rw [hg]; exact (below_size (by repeat (first | (with_reducible first | exact HB.out | apply kL | apply kM | apply kE | refine kS ?_ GE106.out | refine kS ?_ GE107.out) | exact HB.out))) : w.heap.size ≤ gb109))
      have n5_ := Aside0.mk ((by rw [hg]; exact (below_size (by repeat (first | (with_reducible first | exact HB.out | apply kL | apply kM | apply kE | refine kS ?_ GE106.out | refine kS ?_ GE107.out) | exact HB.out))) : w.heap.size ≤ gb109))
      have n6_ := Aside0.mk ((by rw [hg]; exact Nat.ne_of_lt (blk_lt (g := gb106) (o := .cells #[.int .i64 a1_0, .int .i64 a1_1, .int .u8 a1_2, .int .i64 a1_3, .int .i64 a1_4, .int .i64 a1_5, .int .i64 a1_6, .bool a1_7] 32 (0, 0)) (by (with_reducible repeat (first | refine kN ?_ _ | refine kD ?_ | refine kA ?_ _)); exact BK106.out)) : gb106 ≠ gb109))
      have n7_ := Aside0.mk ((by rw [hg]; exact Nat.ne_of_gt (blk_lt (g := gb106) (o := .cells #[.int .i64 a1_0, .int .i64 a1_1, .int .u8 a1_2, .int .i64 a1_3, .int .i64 a1_4, .int .i64 a1_5, .int .i64 a1_6, .bool a1_7] 32 (0, 0)) (by (with_reducible repeat (first | refine kN ?_ _ | refine kD ?_ | refine kA ?_ _)); exact BK106.out)) : gb109 ≠ gb106))
      have n8_ := Aside0.mk ((by rw [hg]; exact Nat.ne_of_lt (blk_lt (g := gb107) (o := .cells #[.int .u8 0, .int .i64 0, .int .i64 0, .int .i64 0, .int .i64 0, .int .u8 0] 28 (0, 0)) (by (with_reducible repeat (first | refine kN ?_ _ | refine kD ?_ | refine kA ?_ _)); exact BK107.out)) : gb107 ≠ gb109))
      have n9_ := Aside0.mk ((by rw [hg]; exact Nat.ne_of_gt (blk_lt (g := gb107) (o := .cells #[.int .u8 0, .int .i64 0, .int .i64 0, .int .i64 0, .int .i64 0, .int .u8 0] 28 (0, 0)) (by (with_reducible repeat (first | refine kN ?_ _ | refine kD ?_ | refine kA ?_ _)); exact BK107.out)) : gb109 ≠ gb107))
      clear BK106
      clear BK107
      clear HB
      have BK106 := n0_
      have BK107 := n1_
      have HB := n2_
      have BK109 := n3_
      have GW109 := n4_
      have GE109 := n5_
      have NB106_109 := n6_
      have NB109_106 := n7_
      have NB107_109 := n8_
      have NB109_107 := n9_
      clear n0_ n1_ n2_ n3_ n4_ n5_ n6_ n7_ n8_ n9_
      clear hb hbox hg
      refine hK.out _ _ ⟨(kC BK106.out 0).trans rfl, (kC BK106.out 1).trans rfl, (kC BK106.out 2).trans rfl, (kC BK106.out 3).trans rfl, (kC BK106.out 4).trans rfl, (kC BK106.out 5).trans rfl, (kC BK106.out 6).trans rfl, (kC BK106.out 7).trans rfl⟩ (fun hHeld => ?_)
      clear hK K
      refine norm_ (a' := ?_) ?_ ?_
      rotate_left
      ·show Act.put _ (some 6) _ = _
       simp only [Act.put, List.setIfInBounds_toArray, List.set_cons_zero, List.set_cons_succ, i64_w, i32_w]
       rfl
      exact norm_ (by simp only [putAll, Act.put, List.setIfInBounds_toArray, List.set_cons_zero, List.set_cons_succ]) (hCont (gb109) _ ⟨hHeld, (by (with_reducible repeat (first | refine kN ?_ _ | refine kD ?_ | refine kA ?_ _)); exact BK106.out), (by (with_reducible repeat (first | refine kN ?_ _ | refine kD ?_ | refine kA ?_ _)); exact BK107.out), (by (with_reducible repeat (first | refine kN ?_ _ | refine kD ?_ | refine kA ?_ _)); exact BK109.out), GW109.out, GE109.out, NB106_109.out, NB109_106.out, NB107_109.out, NB109_107.out, (by repeat (first | (with_reducible first | exact HB.out | apply kL | apply kM | apply kE | refine kS ?_ GE106.out | refine kS ?_ GE107.out | refine kS ?_ GE109.out) | exact HB.out))⟩)
     ·skip
      refine box_step ?hg (N := 6) ?hd (cs := #[.int .u8 0, .int .i64 0, .int .i64 0, .int .i64 0, .int .i64 0, .int .u8 0]) (t := 28) ?hr ?_; (case hd => rfl); (case hg => rfl); (case hr => first | (go_simp; done) | (go_simp; rfl))
      intro gb109 hg w45 hbox hb
      have n0_ := Aside0.mk (blk_below (g := gb106) (o := .cells #[.int .i64 a1_0, .int .i64 a1_1, .int .u8 a1_2, .int .i64 a1_3, .int .i64 a1_4, .int .i64 a1_5, .int .i64 a1_6, .bool a1_7] 32 (0, 0)) (by (with_reducible repeat (first | refine kN ?_ _ | refine kD ?_ | refine kA ?_ _)); exact BK106.out) hb)
      have n1_ := Aside0.mk (blk_below (g := gb107) (o := .cells #[.int .u8 0, .int .i64 0, .int .i64 0, .int .i64 0, .int .i64 0, .int .u8 0] 28 (0, 0)) (by (with_reducible repeat (first | refine kN ?_ _ | refine kD ?_ | refine kA ?_ _)); exact BK107.out) hb)
      have n2_ := Aside0.mk (below_step (by repeat (first | (with_reducible first | exact HB.out | apply kL | apply kM | apply kE | refine kS ?_ GE106.out | refine kS ?_ GE107.out) | exact HB.out)) hb)
      have n3_ := Aside0.mk (hbox)
      have n4_ := Aside0.mk ((by rw [hg]; exact (below_size (by repeat (first | (with_reducible first | exact HB.out | apply kL | apply kM | apply kE | refine kS ?_ GE106.out | refine kS ?_ GE107.out) | exact HB.out))) : w.heap.size ≤ gb109))
      have n5_ := Aside0.mk ((by rw [hg]; exact (below_size (by repeat (first | (with_reducible first | exact HB.out | apply kL | apply kM | apply kE | refine kS ?_ GE106.out | refine kS ?_ GE107.out) | exact HB.out))) : w.heap.size ≤ gb109))
      have n6_ := Aside0.mk ((by rw [hg]; exact Nat.ne_of_lt (blk_lt (g := gb106) (o := .cells #[.int .i64 a1_0, .int .i64 a1_1, .int .u8 a1_2, .int .i64 a1_3, .int .i64 a1_4, .int .i64 a1_5, .int .i64 a1_6, .bool a1_7] 32 (0, 0)) (by (with_reducible repeat (first | refine kN ?_ _ | refine kD ?_ | refine kA ?_ _)); exact BK106.out)) : gb106 ≠ gb109))
      have n7_ := Aside0.mk ((by rw [hg]; exact Nat.ne_of_gt (blk_lt (g := gb106) (o := .cells #[.int .i64 a1_0, .int .i64 a1_1, .int .u8 a1_2, .int .i64 a1_3, .int .i64 a1_4, .int .i64 a1_5, .int .i64 a1_6, .bool a1_7] 32 (0, 0)) (by (with_reducible repeat (first | refine kN ?_ _ | refine kD ?_ | refine kA ?_ _)); exact BK106.out)) : gb109 ≠ gb106))
      have n8_ := Aside0.mk ((by rw [hg]; exact Nat.ne_of_lt (blk_lt (g := gb107) (o := .cells #[.int .u8 0, .int .i64 0, .int .i64 0, .int .i64 0, .int .i64 0, .int .u8 0] 28 (0, 0)) (by (with_reducible repeat (first | refine kN ?_ _ | refine kD ?_ | refine kA ?_ _)); exact BK107.out)) : gb107 ≠ gb109))
      have n9_ := Aside0.mk ((by rw [hg]; exact Nat.ne_of_gt (blk_lt (g := gb107) (o := .cells #[.int .u8 0, .int .i64 0, .int .i64 0, .int .i64 0, .int .i64 0, .int .u8 0] 28 (0, 0)) (by (with_reducible repeat (first | refine kN ?_ _ | refine kD ?_ | refine kA ?_ _)); exact BK107.out)) : gb109 ≠ gb107))
      clear BK106
      clear BK107
      clear HB
      have BK106 := n0_
      have BK107 := n1_
      have HB := n2_
      have BK109 := n3_
      have GW109 := n4_
      have GE109 := n5_
      have NB106_109 := n6_
      have NB109_106 := n7_
      have NB107_109 := n8_
      have NB109_107 := n9_
      clear n0_ n1_ n2_ n3_ n4_ n5_ n6_ n7_ n8_ n9_
      clear hb hbox hg
      refine hK.out _ _ ⟨(kC BK106.out 0).trans rfl, (kC BK106.out 1).trans rfl, (kC BK106.out 2).trans rfl, (kC BK106.out 3).trans rfl, (kC BK106.out 4).trans rfl, (kC BK106.out 5).trans rfl, (kC BK106.out 6).trans rfl, (kC BK106.out 7).trans rfl⟩ (fun hHeld => ?_)
      clear hK K
      refine norm_ (a' := ?_) ?_ ?_
      rotate_left
      ·show Act.put _ (some 6) _ = _
       simp only [Act.put, List.setIfInBounds_toArray, List.set_cons_zero, List.set_cons_succ, i64_w, i32_w]
       rfl
      refine one_ (i := 2) (N := some 9) #[true, true, true, true, true, true, false, true, false] rfl rfl (one_of HT_.out (by kernel_rfl)) (by decide) (fun K hK => ?_)
      refine goes_ Tryd.func28 (by kernel_rfl) rfl #[.int .u8 a1_2] (by rfl) rfl rfl (by (try simp only [List.map_toArray, List.map_cons, List.map_nil]); first | done | rfl | (simp only [List.length_drop, List.length_take]; rfl)) ?_
      with_reducible refine (paybookref12_Kind.calls a1_2 t108 _ A3.out).mono ?_
      rintro e w' ⟨rfl, ⟨nd, rfl⟩⟩
      refine ⟨_, rfl, ?_⟩
      refine hK.out _ _ ⟨(kC BK106.out 0).trans rfl, (kC BK106.out 1).trans rfl, (kC BK106.out 2).trans rfl, (kC BK106.out 3).trans rfl, (kC BK106.out 4).trans rfl, (kC BK106.out 5).trans rfl, (kC BK106.out 6).trans rfl, (kC BK106.out 7).trans rfl⟩ (fun hHeld => ?_)
      clear hK K
      refine norm_ (a' := ?_) ?_ ?_
      rotate_left
      ·show Act.put _ (some 9) _ = _
       simp only [Act.put, List.setIfInBounds_toArray, List.set_cons_zero, List.set_cons_succ, i64_w, i32_w]
       rfl
      refine pure_ (i := 6) (N := some 13) (v := ?_) (a' := ?_) #[true, true, true, true, true, true, true, true, false] rfl rfl (any_of HT_.out (by kernel_rfl)) (fun _ _ _ h => h) (Or.inl ⟨by rfl, ?_⟩) ?_ ?_
      rotate_left
      ·intro w'
       go_simp
       with_reducible rfl
      rotate_left
      ·simp only [Act.put, List.setIfInBounds_toArray, List.set_cons_zero, List.set_cons_succ, i64_w, i32_w]
       rfl
      exact norm_ (by simp only [putAll, Act.put, List.setIfInBounds_toArray, List.set_cons_zero, List.set_cons_succ]) (hCont (gb109) _ ⟨hHeld, (by (with_reducible repeat (first | refine kN ?_ _ | refine kD ?_ | refine kA ?_ _)); exact BK106.out), (by (with_reducible repeat (first | refine kN ?_ _ | refine kD ?_ | refine kA ?_ _)); exact BK107.out), (by (with_reducible repeat (first | refine kN ?_ _ | refine kD ?_ | refine kA ?_ _)); exact BK109.out), GW109.out, GE109.out, NB106_109.out, NB109_106.out, NB107_109.out, NB109_107.out, (by repeat (first | (with_reducible first | exact HB.out | apply kL | apply kM | apply kE | refine kS ?_ GE106.out | refine kS ?_ GE107.out | refine kS ?_ GE109.out) | exact HB.out))⟩)
    rintro gb109 w46 ⟨hS_, h0_, h1_, h2_, h3_, h4_, h5_, h6_, h7_, h8_, h9_⟩
    have n0_ : Aside0 (w46.heap[gb106]? = some (.cells #[.int .i64 a1_0, .int .i64 a1_1, .int .u8 a1_2, .int .i64 a1_3, .int .i64 a1_4, .int .i64 a1_5, .int .i64 a1_6, .bool a1_7] 32 (0, 0))) := ⟨h0_⟩
    have n1_ : Aside0 (w46.heap[gb107]? = some (.cells #[.int .u8 0, .int .i64 0, .int .i64 0, .int .i64 0, .int .i64 0, .int .u8 0] 28 (0, 0))) := ⟨h1_⟩
    have n2_ : Aside0 (w46.heap[gb109]? = some (.cells #[.int .u8 0, .int .i64 0, .int .i64 0, .int .i64 0, .int .i64 0, .int .u8 0] 28 (0, 0))) := ⟨h2_⟩
    have n3_ : Aside0 (w.heap.size ≤ gb109) := ⟨h3_⟩
    have n4_ : Aside0 (w.heap.size ≤ gb109) := ⟨h4_⟩
    have n5_ : Aside0 (gb106 ≠ gb109) := ⟨h5_⟩
    have n6_ : Aside0 (gb109 ≠ gb106) := ⟨h6_⟩
    have n7_ : Aside0 (gb107 ≠ gb109) := ⟨h7_⟩
    have n8_ : Aside0 (gb109 ≠ gb107) := ⟨h8_⟩
    have n9_ : Aside0 (Below w.heap.size w w46) := ⟨h9_⟩
    clear BK106
    clear BK107
    clear HB
    clear h0_ h1_ h2_ h3_ h4_ h5_ h6_ h7_ h8_ h9_
    have BK106 := n0_
    have BK107 := n1_
    have BK109 := n2_
    have GW109 := n3_
    have GE109 := n4_
    have NB106_109 := n5_
    have NB109_106 := n6_
    have NB107_109 := n7_
    have NB109_107 := n8_
    have HB := n9_
    clear n0_ n1_ n2_ n3_ n4_ n5_ n6_ n7_ n8_ n9_
    have hHeld : w46.cell? ⟨gb106, 0, none⟩ = some (.int .i64 a1_0) ∧ w46.cell? ⟨gb106, 1, none⟩ = some (.int .i64 a1_1) ∧ w46.cell? ⟨gb106, 2, none⟩ = some (.int .u8 a1_2) ∧ w46.cell? ⟨gb106, 3, none⟩ = some (.int .i64 a1_3) ∧ w46.cell? ⟨gb106, 4, none⟩ = some (.int .i64 a1_4) ∧ w46.cell? ⟨gb106, 5, none⟩ = some (.int .i64 a1_5) ∧ w46.cell? ⟨gb106, 6, none⟩ = some (.int .i64 a1_6) ∧ w46.cell? ⟨gb106, 7, none⟩ = some (.bool a1_7) := hS_
    refine norm_ (a' := ?_) ?_ ?_
    rotate_left
    ·simp only [putAll, Act.put, List.setIfInBounds_toArray, List.set_cons_zero, List.set_cons_succ]
     rfl
    refine one_ (i := 8) (N := none) #[true, true, true, true, true, true, true, true, true] rfl rfl (one_of HT_.out (by kernel_rfl)) (by decide) (fun K hK => ?_)
    have hs47 : w46.cell? ⟨gb109, 0, none⟩ = some (.int .u8 0) := (kC BK109.out 0).trans rfl
    have hfs47 := kF BK109.out 0
    have hns47_0 := NB106_109.out
    have hns47_1 := NB107_109.out
    have hms47_0 := NB109_106.out
    have hms47_1 := NB109_107.out
    have hs48 : w46.cell? ⟨gb109, 1, none⟩ = some (.int .i64 0) := (kC BK109.out 1).trans rfl
    have hfs48 := kF BK109.out 1
    have hns48_0 := NB106_109.out
    have hns48_1 := NB107_109.out
    have hms48_0 := NB109_106.out
    have hms48_1 := NB109_107.out
    have hs49 : w46.cell? ⟨gb109, 2, none⟩ = some (.int .i64 0) := (kC BK109.out 2).trans rfl
    have hfs49 := kF BK109.out 2
    have hns49_0 := NB106_109.out
    have hns49_1 := NB107_109.out
    have hms49_0 := NB109_106.out
    have hms49_1 := NB109_107.out
    have hs50 : w46.cell? ⟨gb109, 3, none⟩ = some (.int .i64 0) := (kC BK109.out 3).trans rfl
    have hfs50 := kF BK109.out 3
    have hns50_0 := NB106_109.out
    have hns50_1 := NB107_109.out
    have hms50_0 := NB109_106.out
    have hms50_1 := NB109_107.out
    have hs51 : w46.cell? ⟨gb109, 4, none⟩ = some (.int .i64 0) := (kC BK109.out 4).trans rfl
    have hfs51 := kF BK109.out 4
    have hns51_0 := NB106_109.out
    have hns51_1 := NB107_109.out
    have hms51_0 := NB109_106.out
    have hms51_1 := NB109_107.out
    have hs52 : w46.cell? ⟨gb109, 5, none⟩ = some (.int .u8 0) := (kC BK109.out 5).trans rfl
    have hfs52 := kF BK109.out 5
    have hns52_0 := NB106_109.out
    have hns52_1 := NB107_109.out
    have hms52_0 := NB109_106.out
    have hms52_1 := NB109_107.out
    refine skip_ (w1 := ?_) (by rfl) rfl ?_ ?_
    rotate_left
    ·go_simp
     rfl
    refine hK.out _ _ ⟨((cell_far (p := ⟨gb109, _, none⟩) NB106_109.out _).trans (((cell_far (p := ⟨gb109, _, none⟩) NB106_109.out _).trans (((cell_far (p := ⟨gb109, _, none⟩) NB106_109.out _).trans (((cell_far (p := ⟨gb109, _, none⟩) NB106_109.out _).trans (((cell_far (p := ⟨gb109, _, none⟩) NB106_109.out _).trans (((cell_far (p := ⟨gb109, _, none⟩) NB106_109.out _).trans (hHeld.1)))))))))))), ((cell_far (p := ⟨gb109, _, none⟩) NB106_109.out _).trans (((cell_far (p := ⟨gb109, _, none⟩) NB106_109.out _).trans (((cell_far (p := ⟨gb109, _, none⟩) NB106_109.out _).trans (((cell_far (p := ⟨gb109, _, none⟩) NB106_109.out _).trans (((cell_far (p := ⟨gb109, _, none⟩) NB106_109.out _).trans (((cell_far (p := ⟨gb109, _, none⟩) NB106_109.out _).trans (hHeld.2.1)))))))))))), ((cell_far (p := ⟨gb109, _, none⟩) NB106_109.out _).trans (((cell_far (p := ⟨gb109, _, none⟩) NB106_109.out _).trans (((cell_far (p := ⟨gb109, _, none⟩) NB106_109.out _).trans (((cell_far (p := ⟨gb109, _, none⟩) NB106_109.out _).trans (((cell_far (p := ⟨gb109, _, none⟩) NB106_109.out _).trans (((cell_far (p := ⟨gb109, _, none⟩) NB106_109.out _).trans (hHeld.2.2.1)))))))))))), ((cell_far (p := ⟨gb109, _, none⟩) NB106_109.out _).trans (((cell_far (p := ⟨gb109, _, none⟩) NB106_109.out _).trans (((cell_far (p := ⟨gb109, _, none⟩) NB106_109.out _).trans (((cell_far (p := ⟨gb109, _, none⟩) NB106_109.out _).trans (((cell_far (p := ⟨gb109, _, none⟩) NB106_109.out _).trans (((cell_far (p := ⟨gb109, _, none⟩) NB106_109.out _).trans (hHeld.2.2.2.1)))))))))))), ((cell_far (p := ⟨gb109, _, none⟩) NB106_109.out _).trans (((cell_far (p := ⟨gb109, _, none⟩) NB106_109.out _).trans (((cell_far (p := ⟨gb109, _, none⟩) NB106_109.out _).trans (((cell_far (p := ⟨gb109, _, none⟩) NB106_109.out _).trans (((cell_far (p := ⟨gb109, _, none⟩) NB106_109.out _).trans (((cell_far (p := ⟨gb109, _, none⟩) NB106_109.out _).trans (hHeld.2.2.2.2.1)))))))))))), ((cell_far (p := ⟨gb109, _, none⟩) NB106_109.out _).trans (((cell_far (p := ⟨gb109, _, none⟩) NB106_109.out _).trans (((cell_far (p := ⟨gb109, _, none⟩) NB106_109.out _).trans (((cell_far (p := ⟨gb109, _, none⟩) NB106_109.out _).trans (((cell_far (p := ⟨gb109, _, none⟩) NB106_109.out _).trans (((cell_far (p := ⟨gb109, _, none⟩) NB106_109.out _).trans (hHeld.2.2.2.2.2.1)))))))))))), ((cell_far (p := ⟨gb109, _, none⟩) NB106_109.out _).trans (((cell_far (p := ⟨gb109, _, none⟩) NB106_109.out _).trans (((cell_far (p := ⟨gb109, _, none⟩) NB106_109.out _).trans (((cell_far (p := ⟨gb109, _, none⟩) NB106_109.out _).trans (((cell_far (p := ⟨gb109, _, none⟩) NB106_109.out _).trans (((cell_far (p := ⟨gb109, _, none⟩) NB106_109.out _).trans (hHeld.2.2.2.2.2.2.1)))))))))))), ((cell_far (p := ⟨gb109, _, none⟩) NB106_109.out _).trans (((cell_far (p := ⟨gb109, _, none⟩) NB106_109.out _).trans (((cell_far (p := ⟨gb109, _, none⟩) NB106_109.out _).trans (((cell_far (p := ⟨gb109, _, none⟩) NB106_109.out _).trans (((cell_far (p := ⟨gb109, _, none⟩) NB106_109.out _).trans (((cell_far (p := ⟨gb109, _, none⟩) NB106_109.out _).trans (hHeld.2.2.2.2.2.2.2))))))))))))⟩ (fun hHeld => ?_)
    clear hK K
    refine done_ (done_of HT_.out (by kernel_rfl)) ?_
    have hnb53 := NB109_106.out
    have hnc53 := NB106_109.out
    have hnb54 := NB109_107.out
    have hnc54 := NB107_109.out
    obtain ⟨hcz55_0, hcz55_1, hcz55_2, hcz55_3, hcz55_4, hcz55_5, hfz55_0, hfz55_1, hfz55_2, hfz55_3, hfz55_4, hfz55_5⟩ := bxc6 BK109.out
    have hnb56 := NB106_107.out
    have hnc56 := NB107_106.out
    obtain ⟨hcz57_0, hcz57_1, hcz57_2, hcz57_3, hcz57_4, hcz57_5, hcz57_6, hcz57_7, hfz57_0, hfz57_1, hfz57_2, hfz57_3, hfz57_4, hfz57_5, hfz57_6, hfz57_7⟩ := bxc8 BK106.out
    obtain ⟨hcz58_0, hcz58_1, hcz58_2, hcz58_3, hcz58_4, hcz58_5, hfz58_0, hfz58_1, hfz58_2, hfz58_3, hfz58_4, hfz58_5⟩ := bxc6 BK107.out
    try go_wp2_with (first | ((with_reducible refine gate_dst (N := 35) rfl ?_); refine wpList_load_row rfl 28 (.tmp 6) rfl gb109 rfl 28 #[.int .u8 t108, .int .i64 a0, .int .i64 a1_0, .int .i64 0, .int .i64 a1_3, .int .u8 0] (0, 0) _ (by (with_reducible repeat (first | refine kN ?_ _ | refine kD ?_ | refine kA ?_ _)); refine bxp6_4 (o := .int .i64 0) ?_; (with_reducible repeat (first | refine kN ?_ _ | refine kD ?_ | refine kA ?_ _)); refine bxw6 (.int .u8 0) (.int .i64 0) (.int .i64 0) (.int .i64 0) (.int .i64 0) (.int .u8 0) ?_; (with_reducible repeat (first | refine kN ?_ _ | refine kD ?_ | refine kA ?_ _)); exact BK109.out) Tryd.underlying28 rfl (by kernel_rfl) ?_) | ((with_reducible refine gate_store (t := 28) (p := 4) rfl ?_); refine rec_event (t := 28) (p := 4) (v := ?vo_w59) (g := gb107) (t' := 28) #[.int .u8 0, .int .i64 0, .int .i64 0, .int .i64 0, .int .i64 0, .int .u8 0] #[.int .u8 t108, .int .i64 a0, .int .i64 a1_0, .int .i64 0, .int .i64 a1_3, .int .u8 0] ?hg ?ho ?hn ?hx ?hy ?hb (by rfl) (by kernel_rfl) (by kernel_rfl) ?_; (case ho => rfl); (case hg => rfl); (case hn => rfl); (case hx => rfl); (case hy => rfl); (case hb => exact by (with_reducible repeat (first | refine kN ?_ _ | refine kD ?_ | refine kA ?_ _ | refine kR ?_ NB107_109.out _)); (with_reducible repeat (first | refine kN ?_ _ | refine kD ?_ | refine kA ?_ _)); exact BK107.out); intro w59 hblk hoth hbel; have n0_ : Aside0 (w59.heap[gb106]? = some (.cells #[.int .i64 a1_0, .int .i64 a1_1, .int .u8 a1_2, .int .i64 a1_3, .int .i64 a1_4, .int .i64 a1_5, .int .i64 a1_6, .bool a1_7] 32 (0, 0))) := ⟨(hoth gb106 NB106_107.out).trans (by (with_reducible repeat (first | refine kN ?_ _ | refine kD ?_ | refine kA ?_ _ | refine kR ?_ NB106_109.out _)); (with_reducible repeat (first | refine kN ?_ _ | refine kD ?_ | refine kA ?_ _)); exact BK106.out)⟩; have n1_ : Aside0 (w59.heap[gb107]? = some (.cells #[.int .u8 t108, .int .i64 a0, .int .i64 a1_0, .int .i64 0, .int .i64 a1_3, .int .u8 0] 28 (0, 0))) := ⟨hblk⟩; have n2_ : Aside0 (w59.heap[gb109]? = some (.cells #[.int .u8 t108, .int .i64 a0, .int .i64 a1_0, .int .i64 0, .int .i64 a1_3, .int .u8 0] 28 (0, 0))) := ⟨(hoth gb109 NB109_107.out).trans (by (with_reducible repeat (first | refine kN ?_ _ | refine kD ?_ | refine kA ?_ _)); refine bxp6_4 (o := .int .i64 0) ?_; (with_reducible repeat (first | refine kN ?_ _ | refine kD ?_ | refine kA ?_ _)); refine bxw6 (.int .u8 0) (.int .i64 0) (.int .i64 0) (.int .i64 0) (.int .i64 0) (.int .u8 0) ?_; (with_reducible repeat (first | refine kN ?_ _ | refine kD ?_ | refine kA ?_ _)); exact BK109.out)⟩; have n3_ : Aside0 (Below w.heap.size w w59) := ⟨Below.trans (by repeat (first | (with_reducible first | exact HB.out | apply kL | apply kM | apply kE | refine kS ?_ GE106.out | refine kS ?_ GE107.out | refine kS ?_ GE109.out) | exact HB.out)) (hbel _ GE107.out)⟩; clear hblk hoth hbel; clear BK106; clear BK107; clear BK109; clear HB; have BK106 := n0_; have BK107 := n1_; have BK109 := n2_; have HB := n3_; clear n0_ n1_ n2_ n3_))
    refine bodyPost_ret (results_ct rfl _ _ gb107 28 #[.int .u8 t108, .int .i64 a0, .int .i64 a1_0, .int .i64 0, .int .i64 a1_3, .int .u8 0] (0, 0) _ rfl (by (with_reducible repeat (first | refine kN ?_ _ | refine kD ?_ | refine kA ?_ _)); exact BK107.out) Tryd.underlying28 rfl (by kernel_rfl)) rfl ?_
    exact ⟨by first | rfl | (simp [errW_none, errW_some] <;> rfl) | (simp [*, errW_none, errW_some] <;> rfl), by repeat (first | (with_reducible first | exact HB.out | apply kL | apply kM | apply kE | refine kS ?_ GE106.out | refine kS ?_ GE107.out | refine kS ?_ GE109.out) | exact HB.out)⟩
   ·rw [if_neg c41] at H
    have c41b0 : (t108 == 2) = false := beq_eq_false_iff_ne.mpr c41
    have c41b1 : (t108 != 2) = true := bne_iff_ne.mpr c41
    simp only [Option.some.injEq, Prod.mk.injEq] at H
    obtain ⟨rfl, rfl, rfl, rfl, rfl, rfl, rfl⟩ := H
    go_enter Tryd.func14, Tryd.ntmps14
    try go_wp2_with (first | ((with_reducible refine gate_dst (N := 3) rfl ?_); refine box_event ?hg (N := 3) ?hd (cs := #[.int .i64 a1_0, .int .i64 a1_1, .int .u8 a1_2, .int .i64 a1_3, .int .i64 a1_4, .int .i64 a1_5, .int .i64 a1_6, .bool a1_7]) (t := 32) ?hr ?_; (case hd => rfl); (case hg => rfl); (case hr => first | (go_simp; done) | (go_simp; rfl)); intro gb106 hg w60 hbox hb; have n0_ := Aside0.mk (below_step (by repeat (first | (with_reducible first | exact HB.out | apply kL | apply kM | apply kE) | exact HB.out)) hb); have n1_ := Aside0.mk (hbox); have n2_ := Aside0.mk ((by rw [hg]; exact (below_size (by repeat (first | (with_reducible first | exact HB.out | apply kL | apply kM | apply kE) | exact HB.out))) : w.heap.size ≤ gb106)); have n3_ := Aside0.mk ((by rw [hg]; exact (below_size (by repeat (first | (with_reducible first | exact HB.out | apply kL | apply kM | apply kE) | exact HB.out))) : w.heap.size ≤ gb106)); clear HB; have HB := n0_; have BK106 := n1_; have GW106 := n2_; have GE106 := n3_; clear n0_ n1_ n2_ n3_; clear hb hbox hg) | ((with_reducible refine gate_dst (N := 4) rfl ?_); refine box_event ?hg (N := 4) ?hd (cs := #[.int .u8 0, .int .i64 0, .int .i64 0, .int .i64 0, .int .i64 0, .int .u8 0]) (t := 28) ?hr ?_; (case hd => rfl); (case hg => rfl); (case hr => first | (go_simp; done) | (go_simp; rfl)); intro gb107 hg w61 hbox hb; have n0_ := Aside0.mk (blk_below (g := gb106) (o := .cells #[.int .i64 a1_0, .int .i64 a1_1, .int .u8 a1_2, .int .i64 a1_3, .int .i64 a1_4, .int .i64 a1_5, .int .i64 a1_6, .bool a1_7] 32 (0, 0)) (by (with_reducible repeat (first | refine kN ?_ _ | refine kD ?_ | refine kA ?_ _)); exact BK106.out) hb); have n1_ := Aside0.mk (below_step (by repeat (first | (with_reducible first | exact HB.out | apply kL | apply kM | apply kE | refine kS ?_ GE106.out) | exact HB.out)) hb); have n2_ := Aside0.mk (hbox); have n3_ := Aside0.mk ((by rw [hg]; exact (below_size (by repeat (first | (with_reducible first | exact HB.out | apply kL | apply kM | apply kE | refine kS ?_ GE106.out) | exact HB.out))) : w.heap.size ≤ gb107)); have n4_ := Aside0.mk ((by rw [hg]; exact (below_size (by repeat (first | (with_reducible first | exact HB.out | apply kL | apply kM | apply kE | refine kS ?_ GE106.out) | exact HB.out))) : w.heap.size ≤ gb107)); have n5_ := Aside0.mk ((by rw [hg]; exact Nat.ne_of_lt (blk_lt (g := gb106) (o := .cells #[.int .i64 a1_0, .int .i64 a1_1, .int .u8 a1_2, .int .i64 a1_3, .int .i64 a1_4, .int .i64 a1_5, .int .i64 a1_6, .bool a1_7] 32 (0, 0)) (by (with_reducible repeat (first | refine kN ?_ _ | refine kD ?_ | refine kA ?_ _)); exact BK106.out)) : gb106 ≠ gb107)); have n6_ := Aside0.mk ((by rw [hg]; exact Nat.ne_of_gt (blk_lt (g := gb106) (o := .cells #[.int .i64 a1_0, .int .i64 a1_1, .int .u8 a1_2, .int .i64 a1_3, .int .i64 a1_4, .int .i64 a1_5, .int .i64 a1_6, .bool a1_7] 32 (0, 0)) (by (with_reducible repeat (first | refine kN ?_ _ | refine kD ?_ | refine kA ?_ _)); exact BK106.out)) : gb107 ≠ gb106)); clear BK106; clear HB; have BK106 := n0_; have HB := n1_; have BK107 := n2_; have GW107 := n3_; have GE107 := n4_; have NB106_107 := n5_; have NB107_106 := n6_; clear n0_ n1_ n2_ n3_ n4_ n5_ n6_; clear hb hbox hg))
    have n0_ := Aside0.mk (kD BK106.out)
    have n1_ := Aside0.mk (kD BK107.out)
    have n2_ := Aside0.mk (kE HB.out)
    clear BK106
    clear BK107
    clear HB
    have BK106 := n0_
    have BK107 := n1_
    have HB := n2_
    clear n0_ n1_ n2_
    refine start_ (n := 9) (S := fun w' => w'.cell? ⟨gb106, 0, none⟩ = some (.int .i64 a1_0) ∧ w'.cell? ⟨gb106, 1, none⟩ = some (.int .i64 a1_1) ∧ w'.cell? ⟨gb106, 2, none⟩ = some (.int .u8 a1_2) ∧ w'.cell? ⟨gb106, 3, none⟩ = some (.int .i64 a1_3) ∧ w'.cell? ⟨gb106, 4, none⟩ = some (.int .i64 a1_4) ∧ w'.cell? ⟨gb106, 5, none⟩ = some (.int .i64 a1_5) ∧ w'.cell? ⟨gb106, 6, none⟩ = some (.int .i64 a1_6) ∧ w'.cell? ⟨gb106, 7, none⟩ = some (.bool a1_7)) (ds := []) #[false, false, false, false, false, false, false, false, false] (by kernel_rfl) rfl rfl ⟨(kC BK106.out 0).trans rfl, (kC BK106.out 1).trans rfl, (kC BK106.out 2).trans rfl, (kC BK106.out 3).trans rfl, (kC BK106.out 4).trans rfl, (kC BK106.out 5).trans rfl, (kC BK106.out 6).trans rfl, (kC BK106.out 7).trans rfl⟩ (fun hHeld => ?_); refine with_tabW paybookref12_Asks.tab1 paybookref12_Asks.bits1 (fun HT_ HW_ => ?_)
    generalize w61.drew = w62 at BK106 BK107 HB hHeld ⊢
    refine pure_ (i := 0) (N := some 7) (v := ?_) (a' := ?_) #[true, false, false, false, false, false, false, false, false] rfl rfl (any_of HT_.out (by kernel_rfl)) (fun _ _ _ h => h) (Or.inl ⟨by rfl, ?_⟩) ?_ ?_
    rotate_left
    ·intro w'
     go_simp
     with_reducible rfl
    rotate_left
    ·simp only [Act.put, List.setIfInBounds_toArray, List.set_cons_zero, List.set_cons_succ, i64_w, i32_w]
     rfl
    refine pure_ (i := 3) (N := some 10) (v := ?_) (a' := ?_) #[true, false, false, true, false, false, false, false, false] rfl rfl (any_of HT_.out (by kernel_rfl)) (fun _ _ _ h => h) (Or.inl ⟨by rfl, ?_⟩) ?_ ?_
    rotate_left
    ·intro w'
     go_simp
     with_reducible rfl
    rotate_left
    ·simp only [Act.put, List.setIfInBounds_toArray, List.set_cons_zero, List.set_cons_succ, i64_w, i32_w]
     rfl
    refine pure_ (i := 4) (N := some 11) (v := ?_) (a' := ?_) #[true, false, false, true, true, false, false, false, false] rfl rfl (any_of HT_.out (by kernel_rfl)) (fun _ _ _ h => h) (Or.inl ⟨by rfl, ?_⟩) ?_ ?_
    rotate_left
    ·intro w'
     go_simp
     with_reducible rfl
    rotate_left
    ·simp only [Act.put, List.setIfInBounds_toArray, List.set_cons_zero, List.set_cons_succ, i64_w, i32_w]
     rfl
    refine take_ (i := 1) (N := some 8) (v := ?_) (a' := ?_) #[true, true, false, true, true, false, false, false, false] rfl rfl (take_ofW HT_.out HW_.out (by kernel_rfl)) (fun _ _ _ h => h) (Or.inl ⟨by rfl, ?_⟩) hHeld ?_ ?_
    rotate_left
    ·rintro w' ⟨s0, s1, s2, s3, s4, s5, s6, s7⟩
     go_simp
     with_reducible rfl
    rotate_left
    ·simp only [Act.put, List.setIfInBounds_toArray, List.set_cons_zero, List.set_cons_succ, i64_w, i32_w]
     rfl
    refine take_ (i := 5) (N := some 12) (v := ?_) (a' := ?_) #[true, true, false, true, true, true, false, false, false] rfl rfl (take_ofW HT_.out HW_.out (by kernel_rfl)) (fun _ _ _ h => h) (Or.inl ⟨by rfl, ?_⟩) hHeld ?_ ?_
    rotate_left
    ·rintro w' ⟨s0, s1, s2, s3, s4, s5, s6, s7⟩
     go_simp
     with_reducible rfl
    rotate_left
    ·simp only [Act.put, List.setIfInBounds_toArray, List.set_cons_zero, List.set_cons_succ, i64_w, i32_w]
     rfl
    refine join_ (σ := Nat) 1 #[true, true, true, true, true, true, true, true, false] (fun s_ => [(9, .int .u8 t108), (6, .pointer (some ⟨s_, 0, none⟩)), (13, .agg #[.int .u8 t108, .int .i64 a0, .int .i64 a1_0, .int .i64 0, .int .i64 0, .int .u8 0])]) (fun s_ w' => (w'.cell? ⟨gb106, 0, none⟩ = some (.int .i64 a1_0) ∧ w'.cell? ⟨gb106, 1, none⟩ = some (.int .i64 a1_1) ∧ w'.cell? ⟨gb106, 2, none⟩ = some (.int .u8 a1_2) ∧ w'.cell? ⟨gb106, 3, none⟩ = some (.int .i64 a1_3) ∧ w'.cell? ⟨gb106, 4, none⟩ = some (.int .i64 a1_4) ∧ w'.cell? ⟨gb106, 5, none⟩ = some (.int .i64 a1_5) ∧ w'.cell? ⟨gb106, 6, none⟩ = some (.int .i64 a1_6) ∧ w'.cell? ⟨gb106, 7, none⟩ = some (.bool a1_7)) ∧ (w'.heap[gb106]? = some (.cells #[.int .i64 a1_0, .int .i64 a1_1, .int .u8 a1_2, .int .i64 a1_3, .int .i64 a1_4, .int .i64 a1_5, .int .i64 a1_6, .bool a1_7] 32 (0, 0))) ∧ (w'.heap[gb107]? = some (.cells #[.int .u8 0, .int .i64 0, .int .i64 0, .int .i64 0, .int .i64 0, .int .u8 0] 28 (0, 0))) ∧ (w'.heap[s_]? = some (.cells #[.int .u8 0, .int .i64 0, .int .i64 0, .int .i64 0, .int .i64 0, .int .u8 0] 28 (0, 0))) ∧ (w.heap.size ≤ s_) ∧ (w.heap.size ≤ s_) ∧ (gb106 ≠ s_) ∧ (s_ ≠ gb106) ∧ (gb107 ≠ s_) ∧ (s_ ≠ gb107) ∧ (Below w.heap.size w w')) ?_ ?_
    rotate_left
    ·intro hCont
     refine two_ (i := 2) (j := 7) (Ni := some 9) (Nj := some 6) #[true, true, true, true, true, true, false, false, false] #[true, true, false, true, true, true, false, true, false] rfl rfl rfl rfl (two_of HT_.out (by kernel_rfl)) (by decide) (by decide) (fun K hK => ?_) (fun K hK => ?_)
     ·skip
      refine goes_ Tryd.func28 (by kernel_rfl) rfl #[.int .u8 a1_2] (by rfl) rfl rfl (by (try simp only [List.map_toArray, List.map_cons, List.map_nil]); first | done | rfl | (simp only [List.length_drop, List.length_take]; rfl)) ?_
      with_reducible refine (paybookref12_Kind.calls a1_2 t108 _ A3.out).mono ?_
      rintro e w' ⟨rfl, ⟨nd, rfl⟩⟩
      refine ⟨_, rfl, ?_⟩
      refine hK.out _ _ ⟨(kC BK106.out 0).trans rfl, (kC BK106.out 1).trans rfl, (kC BK106.out 2).trans rfl, (kC BK106.out 3).trans rfl, (kC BK106.out 4).trans rfl, (kC BK106.out 5).trans rfl, (kC BK106.out 6).trans rfl, (kC BK106.out 7).trans rfl⟩ (fun hHeld => ?_)
      clear hK K
      refine norm_ (a' := ?_) ?_ ?_
      rotate_left
      ·show Act.put _ (some 9) _ = _
       simp only [Act.put, List.setIfInBounds_toArray, List.set_cons_zero, List.set_cons_succ, i64_w, i32_w]
       rfl
      refine pure_ (i := 6) (N := some 13) (v := ?_) (a' := ?_) #[true, true, true, true, true, true, true, false, false] rfl rfl (any_of HT_.out (by kernel_rfl)) (fun _ _ _ h => h) (Or.inl ⟨by rfl, ?_⟩) ?_ ?_
      rotate_left
      ·intro w'
       go_simp
       with_reducible rfl
      rotate_left
      ·simp only [Act.put, List.setIfInBounds_toArray, List.set_cons_zero, List.set_cons_succ, i64_w, i32_w]
       rfl
      refine one_ (i := 7) (N := some 6) #[true, true, true, true, true, true, true, true, false] rfl rfl (one_of HT_.out (by kernel_rfl)) (by decide) (fun K hK => ?_)
      refine box_step ?hg (N := 6) ?hd (cs := #[.int .u8 0, .int .i64 0, .int .i64 0, .int .i64 0, .int .i64 0, .int .u8 0]) (t := 28) ?hr ?_; (case hd => rfl); (case hg => rfl); (case hr => first | (go_simp; done) | (go_simp; rfl))
      intro gb109 hg w63 hbox hb
      have n0_ := Aside0.mk (blk_below (g := gb106) (o := .cells #[.int .i64 a1_0, .int .i64 a1_1, .int .u8 a1_2, .int .i64 a1_3, .int .i64 a1_4, .int .i64 a1_5, .int .i64 a1_6, .bool a1_7] 32 (0, 0)) (by (with_reducible repeat (first | refine kN ?_ _ | refine kD ?_ | refine kA ?_ _)); exact BK106.out) hb)
      have n1_ := Aside0.mk (blk_below (g := gb107) (o := .cells #[.int .u8 0, .int .i64 0, .int .i64 0, .int .i64 0, .int .i64 0, .int .u8 0] 28 (0, 0)) (by (with_reducible repeat (first | refine kN ?_ _ | refine kD ?_ | refine kA ?_ _)); exact BK107.out) hb)
      have n2_ := Aside0.mk (below_step (by repeat (first | (with_reducible first | exact HB.out | apply kL | apply kM | apply kE | refine kS ?_ GE106.out | refine kS ?_ GE107.out) | exact HB.out)) hb)
      have n3_ := Aside0.mk (hbox)
      have n4_ := Aside0.mk ((by rw [hg]; exact (below_size (by repeat (first | (with_reducible first | exact HB.out | apply kL | apply kM | apply kE | refine kS ?_ GE106.out | refine kS ?_ GE107.out) | exact HB.out))) : w.heap.size ≤ gb109))
      have n5_ := Aside0.mk ((by rw [hg]; exact (below_size (by repeat (first | (with_reducible first | exact HB.out | apply kL | apply kM | apply kE | refine kS ?_ GE106.out | refine kS ?_ GE107.out) | exact HB.out))) : w.heap.size ≤ gb109))
      have n6_ := Aside0.mk ((by rw [hg]; exact Nat.ne_of_lt (blk_lt (g := gb106) (o := .cells #[.int .i64 a1_0, .int .i64 a1_1, .int .u8 a1_2, .int .i64 a1_3, .int .i64 a1_4, .int .i64 a1_5, .int .i64 a1_6, .bool a1_7] 32 (0, 0)) (by (with_reducible repeat (first | refine kN ?_ _ | refine kD ?_ | refine kA ?_ _)); exact BK106.out)) : gb106 ≠ gb109))
      have n7_ := Aside0.mk ((by rw [hg]; exact Nat.ne_of_gt (blk_lt (g := gb106) (o := .cells #[.int .i64 a1_0, .int .i64 a1_1, .int .u8 a1_2, .int .i64 a1_3, .int .i64 a1_4, .int .i64 a1_5, .int .i64 a1_6, .bool a1_7] 32 (0, 0)) (by (with_reducible repeat (first | refine kN ?_ _ | refine kD ?_ | refine kA ?_ _)); exact BK106.out)) : gb109 ≠ gb106))
      have n8_ := Aside0.mk ((by rw [hg]; exact Nat.ne_of_lt (blk_lt (g := gb107) (o := .cells #[.int .u8 0, .int .i64 0, .int .i64 0, .int .i64 0, .int .i64 0, .int .u8 0] 28 (0, 0)) (by (with_reducible repeat (first | refine kN ?_ _ | refine kD ?_ | refine kA ?_ _)); exact BK107.out)) : gb107 ≠ gb109))
      have n9_ := Aside0.mk ((by rw [hg]; exact Nat.ne_of_gt (blk_lt (g := gb107) (o := .cells #[.int .u8 0, .int .i64 0, .int .i64 0, .int .i64 0, .int .i64 0, .int .u8 0] 28 (0, 0)) (by (with_reducible repeat (first | refine kN ?_ _ | refine kD ?_ | refine kA ?_ _)); exact BK107.out)) : gb109 ≠ gb107))
      clear BK106
      clear BK107
      clear HB
      have BK106 := n0_
      have BK107 := n1_
      have HB := n2_
      have BK109 := n3_
      have GW109 := n4_
      have GE109 := n5_
      have NB106_109 := n6_
      have NB109_106 := n7_
      have NB107_109 := n8_
      have NB109_107 := n9_
      clear n0_ n1_ n2_ n3_ n4_ n5_ n6_ n7_ n8_ n9_
      clear hb hbox hg
      refine hK.out _ _ ⟨(kC BK106.out 0).trans rfl, (kC BK106.out 1).trans rfl, (kC BK106.out 2).trans rfl, (kC BK106.out 3).trans rfl, (kC BK106.out 4).trans rfl, (kC BK106.out 5).trans rfl, (kC BK106.out 6).trans rfl, (kC BK106.out 7).trans rfl⟩ (fun hHeld => ?_)
      clear hK K
      refine norm_ (a' := ?_) ?_ ?_
      rotate_left
      ·show Act.put _ (some 6) _ = _
       simp only [Act.put, List.setIfInBounds_toArray, List.set_cons_zero, List.set_cons_succ, i64_w, i32_w]
       rfl
      exact norm_ (by simp only [putAll, Act.put, List.setIfInBounds_toArray, List.set_cons_zero, List.set_cons_succ]) (hCont (gb109) _ ⟨hHeld, (by (with_reducible repeat (first | refine kN ?_ _ | refine kD ?_ | refine kA ?_ _)); exact BK106.out), (by (with_reducible repeat (first | refine kN ?_ _ | refine kD ?_ | refine kA ?_ _)); exact BK107.out), (by (with_reducible repeat (first | refine kN ?_ _ | refine kD ?_ | refine kA ?_ _)); exact BK109.out), GW109.out, GE109.out, NB106_109.out, NB109_106.out, NB107_109.out, NB109_107.out, (by repeat (first | (with_reducible first | exact HB.out | apply kL | apply kM | apply kE | refine kS ?_ GE106.out | refine kS ?_ GE107.out | refine kS ?_ GE109.out) | exact HB.out))⟩)
     ·skip
      refine box_step ?hg (N := 6) ?hd (cs := #[.int .u8 0, .int .i64 0, .int .i64 0, .int .i64 0, .int .i64 0, .int .u8 0]) (t := 28) ?hr ?_; (case hd => rfl); (case hg => rfl); (case hr => first | (go_simp; done) | (go_simp; rfl))
      intro gb109 hg w63 hbox hb
      have n0_ := Aside0.mk (blk_below (g := gb106) (o := .cells #[.int .i64 a1_0, .int .i64 a1_1, .int .u8 a1_2, .int .i64 a1_3, .int .i64 a1_4, .int .i64 a1_5, .int .i64 a1_6, .bool a1_7] 32 (0, 0)) (by (with_reducible repeat (first | refine kN ?_ _ | refine kD ?_ | refine kA ?_ _)); exact BK106.out) hb)
      have n1_ := Aside0.mk (blk_below (g := gb107) (o := .cells #[.int .u8 0, .int .i64 0, .int .i64 0, .int .i64 0, .int .i64 0, .int .u8 0] 28 (0, 0)) (by (with_reducible repeat (first | refine kN ?_ _ | refine kD ?_ | refine kA ?_ _)); exact BK107.out) hb)
      have n2_ := Aside0.mk (below_step (by repeat (first | (with_reducible first | exact HB.out | apply kL | apply kM | apply kE | refine kS ?_ GE106.out | refine kS ?_ GE107.out) | exact HB.out)) hb)
      have n3_ := Aside0.mk (hbox)
      have n4_ := Aside0.mk ((by rw [hg]; exact (below_size (by repeat (first | (with_reducible first | exact HB.out | apply kL | apply kM | apply kE | refine kS ?_ GE106.out | refine kS ?_ GE107.out) | exact HB.out))) : w.heap.size ≤ gb109))
      have n5_ := Aside0.mk ((by rw [hg]; exact (below_size (by repeat (first | (with_reducible first | exact HB.out | apply kL | apply kM | apply kE | refine kS ?_ GE106.out | refine kS ?_ GE107.out) | exact HB.out))) : w.heap.size ≤ gb109))
      have n6_ := Aside0.mk ((by rw [hg]; exact Nat.ne_of_lt (blk_lt (g := gb106) (o := .cells #[.int .i64 a1_0, .int .i64 a1_1, .int .u8 a1_2, .int .i64 a1_3, .int .i64 a1_4, .int .i64 a1_5, .int .i64 a1_6, .bool a1_7] 32 (0, 0)) (by (with_reducible repeat (first | refine kN ?_ _ | refine kD ?_ | refine kA ?_ _)); exact BK106.out)) : gb106 ≠ gb109))
      have n7_ := Aside0.mk ((by rw [hg]; exact Nat.ne_of_gt (blk_lt (g := gb106) (o := .cells #[.int .i64 a1_0, .int .i64 a1_1, .int .u8 a1_2, .int .i64 a1_3, .int .i64 a1_4, .int .i64 a1_5, .int .i64 a1_6, .bool a1_7] 32 (0, 0)) (by (with_reducible repeat (first | refine kN ?_ _ | refine kD ?_ | refine kA ?_ _)); exact BK106.out)) : gb109 ≠ gb106))
      have n8_ := Aside0.mk ((by rw [hg]; exact Nat.ne_of_lt (blk_lt (g := gb107) (o := .cells #[.int .u8 0, .int .i64 0, .int .i64 0, .int .i64 0, .int .i64 0, .int .u8 0] 28 (0, 0)) (by (with_reducible repeat (first | refine kN ?_ _ | refine kD ?_ | refine kA ?_ _)); exact BK107.out)) : gb107 ≠ gb109))
      have n9_ := Aside0.mk ((by rw [hg]; exact Nat.ne_of_gt (blk_lt (g := gb107) (o := .cells #[.int .u8 0, .int .i64 0, .int .i64 0, .int .i64 0, .int .i64 0, .int .u8 0] 28 (0, 0)) (by (with_reducible repeat (first | refine kN ?_ _ | refine kD ?_ | refine kA ?_ _)); exact BK107.out)) : gb109 ≠ gb107))
      clear BK106
      clear BK107
      clear HB
      have BK106 := n0_
      have BK107 := n1_
      have HB := n2_
      have BK109 := n3_
      have GW109 := n4_
      have GE109 := n5_
      have NB106_109 := n6_
      have NB109_106 := n7_
      have NB107_109 := n8_
      have NB109_107 := n9_
      clear n0_ n1_ n2_ n3_ n4_ n5_ n6_ n7_ n8_ n9_
      clear hb hbox hg
      refine hK.out _ _ ⟨(kC BK106.out 0).trans rfl, (kC BK106.out 1).trans rfl, (kC BK106.out 2).trans rfl, (kC BK106.out 3).trans rfl, (kC BK106.out 4).trans rfl, (kC BK106.out 5).trans rfl, (kC BK106.out 6).trans rfl, (kC BK106.out 7).trans rfl⟩ (fun hHeld => ?_)
      clear hK K
      refine norm_ (a' := ?_) ?_ ?_
      rotate_left
      ·show Act.put _ (some 6) _ = _
       simp only [Act.put, List.setIfInBounds_toArray, List.set_cons_zero, List.set_cons_succ, i64_w, i32_w]
       rfl
      refine one_ (i := 2) (N := some 9) #[true, true, true, true, true, true, false, true, false] rfl rfl (one_of HT_.out (by kernel_rfl)) (by decide) (fun K hK => ?_)
      refine goes_ Tryd.func28 (by kernel_rfl) rfl #[.int .u8 a1_2] (by rfl) rfl rfl (by (try simp only [List.map_toArray, List.map_cons, List.map_nil]); first | done | rfl | (simp only [List.length_drop, List.length_take]; rfl)) ?_
      with_reducible refine (paybookref12_Kind.calls a1_2 t108 _ A3.out).mono ?_
      rintro e w' ⟨rfl, ⟨nd, rfl⟩⟩
      refine ⟨_, rfl, ?_⟩
      refine hK.out _ _ ⟨(kC BK106.out 0).trans rfl, (kC BK106.out 1).trans rfl, (kC BK106.out 2).trans rfl, (kC BK106.out 3).trans rfl, (kC BK106.out 4).trans rfl, (kC BK106.out 5).trans rfl, (kC BK106.out 6).trans rfl, (kC BK106.out 7).trans rfl⟩ (fun hHeld => ?_)
      clear hK K
      refine norm_ (a' := ?_) ?_ ?_
      rotate_left
      ·show Act.put _ (some 9) _ = _
       simp only [Act.put, List.setIfInBounds_toArray, List.set_cons_zero, List.set_cons_succ, i64_w, i32_w]
       rfl
      refine pure_ (i := 6) (N := some 13) (v := ?_) (a' := ?_) #[true, true, true, true, true, true, true, true, false] rfl rfl (any_of HT_.out (by kernel_rfl)) (fun _ _ _ h => h) (Or.inl ⟨by rfl, ?_⟩) ?_ ?_
      rotate_left
      ·intro w'
       go_simp
       with_reducible rfl
      rotate_left
      ·simp only [Act.put, List.setIfInBounds_toArray, List.set_cons_zero, List.set_cons_succ, i64_w, i32_w]
       rfl
      exact norm_ (by simp only [putAll, Act.put, List.setIfInBounds_toArray, List.set_cons_zero, List.set_cons_succ]) (hCont (gb109) _ ⟨hHeld, (by (with_reducible repeat (first | refine kN ?_ _ | refine kD ?_ | refine kA ?_ _)); exact BK106.out), (by (with_reducible repeat (first | refine kN ?_ _ | refine kD ?_ | refine kA ?_ _)); exact BK107.out), (by (with_reducible repeat (first | refine kN ?_ _ | refine kD ?_ | refine kA ?_ _)); exact BK109.out), GW109.out, GE109.out, NB106_109.out, NB109_106.out, NB107_109.out, NB109_107.out, (by repeat (first | (with_reducible first | exact HB.out | apply kL | apply kM | apply kE | refine kS ?_ GE106.out | refine kS ?_ GE107.out | refine kS ?_ GE109.out) | exact HB.out))⟩)
    rintro gb109 w64 ⟨hS_, h0_, h1_, h2_, h3_, h4_, h5_, h6_, h7_, h8_, h9_⟩
    have n0_ : Aside0 (w64.heap[gb106]? = some (.cells #[.int .i64 a1_0, .int .i64 a1_1, .int .u8 a1_2, .int .i64 a1_3, .int .i64 a1_4, .int .i64 a1_5, .int .i64 a1_6, .bool a1_7] 32 (0, 0))) := ⟨h0_⟩
    have n1_ : Aside0 (w64.heap[gb107]? = some (.cells #[.int .u8 0, .int .i64 0, .int .i64 0, .int .i64 0, .int .i64 0, .int .u8 0] 28 (0, 0))) := ⟨h1_⟩
    have n2_ : Aside0 (w64.heap[gb109]? = some (.cells #[.int .u8 0, .int .i64 0, .int .i64 0, .int .i64 0, .int .i64 0, .int .u8 0] 28 (0, 0))) := ⟨h2_⟩
    have n3_ : Aside0 (w.heap.size ≤ gb109) := ⟨h3_⟩
    have n4_ : Aside0 (w.heap.size ≤ gb109) := ⟨h4_⟩
    have n5_ : Aside0 (gb106 ≠ gb109) := ⟨h5_⟩
    have n6_ : Aside0 (gb109 ≠ gb106) := ⟨h6_⟩
    have n7_ : Aside0 (gb107 ≠ gb109) := ⟨h7_⟩
    have n8_ : Aside0 (gb109 ≠ gb107) := ⟨h8_⟩
    have n9_ : Aside0 (Below w.heap.size w w64) := ⟨h9_⟩
    clear BK106
    clear BK107
    clear HB
    clear h0_ h1_ h2_ h3_ h4_ h5_ h6_ h7_ h8_ h9_
    have BK106 := n0_
    have BK107 := n1_
    have BK109 := n2_
    have GW109 := n3_
    have GE109 := n4_
    have NB106_109 := n5_
    have NB109_106 := n6_
    have NB107_109 := n7_
    have NB109_107 := n8_
    have HB := n9_
    clear n0_ n1_ n2_ n3_ n4_ n5_ n6_ n7_ n8_ n9_
    have hHeld : w64.cell? ⟨gb106, 0, none⟩ = some (.int .i64 a1_0) ∧ w64.cell? ⟨gb106, 1, none⟩ = some (.int .i64 a1_1) ∧ w64.cell? ⟨gb106, 2, none⟩ = some (.int .u8 a1_2) ∧ w64.cell? ⟨gb106, 3, none⟩ = some (.int .i64 a1_3) ∧ w64.cell? ⟨gb106, 4, none⟩ = some (.int .i64 a1_4) ∧ w64.cell? ⟨gb106, 5, none⟩ = some (.int .i64 a1_5) ∧ w64.cell? ⟨gb106, 6, none⟩ = some (.int .i64 a1_6) ∧ w64.cell? ⟨gb106, 7, none⟩ = some (.bool a1_7) := hS_
    refine norm_ (a' := ?_) ?_ ?_
    rotate_left
    ·simp only [putAll, Act.put, List.setIfInBounds_toArray, List.set_cons_zero, List.set_cons_succ]
     rfl
    refine one_ (i := 8) (N := none) #[true, true, true, true, true, true, true, true, true] rfl rfl (one_of HT_.out (by kernel_rfl)) (by decide) (fun K hK => ?_)
    have hs65 : w64.cell? ⟨gb109, 0, none⟩ = some (.int .u8 0) := (kC BK109.out 0).trans rfl
    have hfs65 := kF BK109.out 0
    have hns65_0 := NB106_109.out
    have hns65_1 := NB107_109.out
    have hms65_0 := NB109_106.out
    have hms65_1 := NB109_107.out
    have hs66 : w64.cell? ⟨gb109, 1, none⟩ = some (.int .i64 0) := (kC BK109.out 1).trans rfl
    have hfs66 := kF BK109.out 1
    have hns66_0 := NB106_109.out
    have hns66_1 := NB107_109.out
    have hms66_0 := NB109_106.out
    have hms66_1 := NB109_107.out
    have hs67 : w64.cell? ⟨gb109, 2, none⟩ = some (.int .i64 0) := (kC BK109.out 2).trans rfl
    have hfs67 := kF BK109.out 2
    have hns67_0 := NB106_109.out
    have hns67_1 := NB107_109.out
    have hms67_0 := NB109_106.out
    have hms67_1 := NB109_107.out
    have hs68 : w64.cell? ⟨gb109, 3, none⟩ = some (.int .i64 0) := (kC BK109.out 3).trans rfl
    have hfs68 := kF BK109.out 3
    have hns68_0 := NB106_109.out
    have hns68_1 := NB107_109.out
    have hms68_0 := NB109_106.out
    have hms68_1 := NB109_107.out
    have hs69 : w64.cell? ⟨gb109, 4, none⟩ = some (.int .i64 0) := (kC BK109.out 4).trans rfl
    have hfs69 := kF BK109.out 4
    have hns69_0 := NB106_109.out
    have hns69_1 := NB107_109.out
    have hms69_0 := NB109_106.out
    have hms69_1 := NB109_107.out
    have hs70 : w64.cell? ⟨gb109, 5, none⟩ = some (.int .u8 0) := (kC BK109.out 5).trans rfl
    have hfs70 := kF BK109.out 5
    have hns70_0 := NB106_109.out
    have hns70_1 := NB107_109.out
    have hms70_0 := NB109_106.out
    have hms70_1 := NB109_107.out
    refine skip_ (w1 := ?_) (by rfl) rfl ?_ ?_
    rotate_left
    ·go_simp
     rfl
    refine hK.out _ _ ⟨((cell_far (p := ⟨gb109, _, none⟩) NB106_109.out _).trans (((cell_far (p := ⟨gb109, _, none⟩) NB106_109.out _).trans (((cell_far (p := ⟨gb109, _, none⟩) NB106_109.out _).trans (((cell_far (p := ⟨gb109, _, none⟩) NB106_109.out _).trans (((cell_far (p := ⟨gb109, _, none⟩) NB106_109.out _).trans (((cell_far (p := ⟨gb109, _, none⟩) NB106_109.out _).trans (hHeld.1)))))))))))), ((cell_far (p := ⟨gb109, _, none⟩) NB106_109.out _).trans (((cell_far (p := ⟨gb109, _, none⟩) NB106_109.out _).trans (((cell_far (p := ⟨gb109, _, none⟩) NB106_109.out _).trans (((cell_far (p := ⟨gb109, _, none⟩) NB106_109.out _).trans (((cell_far (p := ⟨gb109, _, none⟩) NB106_109.out _).trans (((cell_far (p := ⟨gb109, _, none⟩) NB106_109.out _).trans (hHeld.2.1)))))))))))), ((cell_far (p := ⟨gb109, _, none⟩) NB106_109.out _).trans (((cell_far (p := ⟨gb109, _, none⟩) NB106_109.out _).trans (((cell_far (p := ⟨gb109, _, none⟩) NB106_109.out _).trans (((cell_far (p := ⟨gb109, _, none⟩) NB106_109.out _).trans (((cell_far (p := ⟨gb109, _, none⟩) NB106_109.out _).trans (((cell_far (p := ⟨gb109, _, none⟩) NB106_109.out _).trans (hHeld.2.2.1)))))))))))), ((cell_far (p := ⟨gb109, _, none⟩) NB106_109.out _).trans (((cell_far (p := ⟨gb109, _, none⟩) NB106_109.out _).trans (((cell_far (p := ⟨gb109, _, none⟩) NB106_109.out _).trans (((cell_far (p := ⟨gb109, _, none⟩) NB106_109.out _).trans (((cell_far (p := ⟨gb109, _, none⟩) NB106_109.out _).trans (((cell_far (p := ⟨gb109, _, none⟩) NB106_109.out _).trans (hHeld.2.2.2.1)))))))))))), ((cell_far (p := ⟨gb109, _, none⟩) NB106_109.out _).trans (((cell_far (p := ⟨gb109, _, none⟩) NB106_109.out _).trans (((cell_far (p := ⟨gb109, _, none⟩) NB106_109.out _).trans (((cell_far (p := ⟨gb109, _, none⟩) NB106_109.out _).trans (((cell_far (p := ⟨gb109, _, none⟩) NB106_109.out _).trans (((cell_far (p := ⟨gb109, _, none⟩) NB106_109.out _).trans (hHeld.2.2.2.2.1)))))))))))), ((cell_far (p := ⟨gb109, _, none⟩) NB106_109.out _).trans (((cell_far (p := ⟨gb109, _, none⟩) NB106_109.out _).trans (((cell_far (p := ⟨gb109, _, none⟩) NB106_109.out _).trans (((cell_far (p := ⟨gb109, _, none⟩) NB106_109.out _).trans (((cell_far (p := ⟨gb109, _, none⟩) NB106_109.out _).trans (((cell_far (p := ⟨gb109, _, none⟩) NB106_109.out _).trans (hHeld.2.2.2.2.2.1)))))))))))), ((cell_far (p := ⟨gb109, _, none⟩) NB106_109.out _).trans (((cell_far (p := ⟨gb109, _, none⟩) NB106_109.out _).trans (((cell_far (p := ⟨gb109, _, none⟩) NB106_109.out _).trans (((cell_far (p := ⟨gb109, _, none⟩) NB106_109.out _).trans (((cell_far (p := ⟨gb109, _, none⟩) NB106_109.out _).trans (((cell_far (p := ⟨gb109, _, none⟩) NB106_109.out _).trans (hHeld.2.2.2.2.2.2.1)))))))))))), ((cell_far (p := ⟨gb109, _, none⟩) NB106_109.out _).trans (((cell_far (p := ⟨gb109, _, none⟩) NB106_109.out _).trans (((cell_far (p := ⟨gb109, _, none⟩) NB106_109.out _).trans (((cell_far (p := ⟨gb109, _, none⟩) NB106_109.out _).trans (((cell_far (p := ⟨gb109, _, none⟩) NB106_109.out _).trans (((cell_far (p := ⟨gb109, _, none⟩) NB106_109.out _).trans (hHeld.2.2.2.2.2.2.2))))))))))))⟩ (fun hHeld => ?_)
    clear hK K
    refine done_ (done_of HT_.out (by kernel_rfl)) ?_
    have hnb71 := NB109_106.out
    have hnc71 := NB106_109.out
    have hnb72 := NB109_107.out
    have hnc72 := NB107_109.out
    obtain ⟨hcz73_0, hcz73_1, hcz73_2, hcz73_3, hcz73_4, hcz73_5, hfz73_0, hfz73_1, hfz73_2, hfz73_3, hfz73_4, hfz73_5⟩ := bxc6 BK109.out
    have hnb74 := NB107_106.out
    have hnc74 := NB106_107.out
    obtain ⟨hcz75_0, hcz75_1, hcz75_2, hcz75_3, hcz75_4, hcz75_5, hfz75_0, hfz75_1, hfz75_2, hfz75_3, hfz75_4, hfz75_5⟩ := bxc6 BK107.out
    try go_wp2_with (first | ((with_reducible refine gate_store (t := 28) (p := 4) rfl ?_); refine rec_event (t := 28) (p := 4) (v := ?vo_w76) (g := gb107) (t' := 28) #[.int .u8 0, .int .i64 0, .int .i64 0, .int .i64 0, .int .i64 0, .int .u8 0] #[.int .u8 t108, .int .i64 a0, .int .i64 a1_0, .int .i64 0, .int .i64 0, .int .u8 0] ?hg ?ho ?hn ?hx ?hy ?hb (by rfl) (by kernel_rfl) (by kernel_rfl) ?_; (case ho => rfl); (case hg => rfl); (case hn => rfl); (case hx => rfl); (case hy => rfl); (case hb => exact by (with_reducible repeat (first | refine kN ?_ _ | refine kD ?_ | refine kA ?_ _ | refine kR ?_ NB107_109.out _)); (with_reducible repeat (first | refine kN ?_ _ | refine kD ?_ | refine kA ?_ _)); exact BK107.out); intro w76 hblk hoth hbel; have n0_ : Aside0 (w76.heap[gb106]? = some (.cells #[.int .i64 a1_0, .int .i64 a1_1, .int .u8 a1_2, .int .i64 a1_3, .int .i64 a1_4, .int .i64 a1_5, .int .i64 a1_6, .bool a1_7] 32 (0, 0))) := ⟨(hoth gb106 NB106_107.out).trans (by (with_reducible repeat (first | refine kN ?_ _ | refine kD ?_ | refine kA ?_ _ | refine kR ?_ NB106_109.out _)); (with_reducible repeat (first | refine kN ?_ _ | refine kD ?_ | refine kA ?_ _)); exact BK106.out)⟩; have n1_ : Aside0 (w76.heap[gb107]? = some (.cells #[.int .u8 t108, .int .i64 a0, .int .i64 a1_0, .int .i64 0, .int .i64 0, .int .u8 0] 28 (0, 0))) := ⟨hblk⟩; have n2_ : Aside0 (w76.heap[gb109]? = some (.cells #[.int .u8 t108, .int .i64 a0, .int .i64 a1_0, .int .i64 0, .int .i64 0, .int .u8 0] 28 (0, 0))) := ⟨(hoth gb109 NB109_107.out).trans (by (with_reducible repeat (first | refine kN ?_ _ | refine kD ?_ | refine kA ?_ _)); refine bxw6 (.int .u8 0) (.int .i64 0) (.int .i64 0) (.int .i64 0) (.int .i64 0) (.int .u8 0) ?_; (with_reducible repeat (first | refine kN ?_ _ | refine kD ?_ | refine kA ?_ _)); exact BK109.out)⟩; have n3_ : Aside0 (Below w.heap.size w w76) := ⟨Below.trans (by repeat (first | (with_reducible first | exact HB.out | apply kL | apply kM | apply kE | refine kS ?_ GE106.out | refine kS ?_ GE107.out | refine kS ?_ GE109.out) | exact HB.out)) (hbel _ GE107.out)⟩; clear hblk hoth hbel; clear BK106; clear BK107; clear BK109; clear HB; have BK106 := n0_; have BK107 := n1_; have BK109 := n2_; have HB := n3_; clear n0_ n1_ n2_ n3_))
    refine bodyPost_ret (results_ct rfl _ _ gb107 28 #[.int .u8 t108, .int .i64 a0, .int .i64 a1_0, .int .i64 0, .int .i64 0, .int .u8 0] (0, 0) _ rfl (by (with_reducible repeat (first | refine kN ?_ _ | refine kD ?_ | refine kA ?_ _)); exact BK107.out) Tryd.underlying28 rfl (by kernel_rfl)) rfl ?_
    exact ⟨by first | rfl | (simp [errW_none, errW_some] <;> rfl) | (simp [*, errW_none, errW_some] <;> rfl), by repeat (first | (with_reducible first | exact HB.out | apply kL | apply kM | apply kE | refine kS ?_ GE106.out | refine kS ?_ GE107.out | refine kS ?_ GE109.out) | exact HB.out)⟩

end Go.Proofs.YtlfaaogifplgeaaDoor.PA
