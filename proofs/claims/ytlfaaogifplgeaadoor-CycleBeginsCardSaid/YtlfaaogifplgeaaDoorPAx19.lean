-- printed by this workplace: wip/patchprint.py over the kit's print
import Derived.Test.YtlfaaogifplgeaaDoorPAx0
import Derived.Test.YtlfaaogifplgeaaDoorPAx1
import Derived.Test.YtlfaaogifplgeaaDoorPAx7
import Derived.Test.YtlfaaogifplgeaaDoorPAx10
import Derived.Test.YtlfaaogifplgeaaDoorPAx11
import Derived.Test.YtlfaaogifplgeaaDoorPAx18
namespace Go.Proofs.YtlfaaogifplgeaaDoor.PA
open Go.RowKit Go.Proofs.YtlfaaogifplgeaaDoorW.PrintWords Go.Proofs.YtlfaaogifplgeaaDoorW.PrintLast Go.Proofs.YtlfaaogifplgeaaDoorW.PrintMore
attribute [local go_sem] max2_int min2_int max_two min_two max_three min_three max_four min_four   -- for this text's walks alone
set_option linter.unusedVariables false
set_option linter.unusedSimpArgs false

attribute [local go_sem high] eqA25
/-! ### paybooklaw12_CycleBegins: function 6 -/
def paybooklaw12_CycleBegins.f (k : Nat) (a0 : Int) (a1 : Int) (a2 : Int) (a3 : Int) (a4 : Bool) : Option (Bool) := (cycle_Begin.f (wrap64 (a0)) (wrap64 (a1)) (wrap64 (a2)) (wrap64 (a3)) a4).bind fun bt358 => ((cycle_Pass.f (wrap64 (a0)) (wrap64 (a1))).bind fun bt367 => ((paybooklaw12_awake.f k).bind fun t376 => (if t376 = true then ((paybookref12_Begin.f (wrap64 (a0)) (wrap64 (a1)) (wrap64 (a2)) (wrap64 (a3)) a4).bind fun bt377 => (if (bt358.1 == bt377.1 && (bt358.2.1 == bt377.2.1 && (bt358.2.2.1 == bt377.2.2.1 && (bt358.2.2.2.1 == bt377.2.2.2.1 && (bt358.2.2.2.2.1 == bt377.2.2.2.2.1 && (bt358.2.2.2.2.2.1 == bt377.2.2.2.2.2.1 && (bt358.2.2.2.2.2.2.1 == bt377.2.2.2.2.2.2.1 && (bt358.2.2.2.2.2.2.2 == bt377.2.2.2.2.2.2.2)))))))) = true then (if (bt367.1 == (wrap64 (a0)) && (bt367.2.1 == (wrap64 (a1)) && (bt367.2.2.1 == 10 && (bt367.2.2.2.1 == 0 && (bt367.2.2.2.2.1 == 0 && (bt367.2.2.2.2.2.1 == 0 && (bt367.2.2.2.2.2.2.1 == 0 && (!bt367.2.2.2.2.2.2.2)))))))) = true then ((cycle_Ended.f bt367.1 bt367.2.1 bt367.2.2.1 bt367.2.2.2.1 bt367.2.2.2.2.1 bt367.2.2.2.2.2.1 bt367.2.2.2.2.2.2.1 bt367.2.2.2.2.2.2.2).bind fun t385 => (some t385)) else (some false)) else (some false))) else (some false))))
theorem paybooklaw12_CycleBegins.mono : ∀ a0 a1 a2 a3 a4 k, LeO (paybooklaw12_CycleBegins.f k a0 a1 a2 a3 a4) (paybooklaw12_CycleBegins.f (k + 1) a0 a1 a2 a3 a4) := by
 intro a0 a1 a2 a3 a4 k
 unfold paybooklaw12_CycleBegins.f
 repeat' first
   | (with_reducible exact paybooklaw12_awake.mono _)
   | (with_reducible exact LeO.refl _)
   | (with_reducible exact LeO.none _)
   | (with_reducible refine LeO.ite ?_ ?_)
   | (with_reducible refine LeO.bind ?_ (fun _ => ?_))
   | exact paybooklaw12_awake.mono _
   | exact LeO.none _
   | refine LeO.ite ?_ ?_
   | refine LeO.bind ?_ (fun _ => ?_)
def paybooklaw12_CycleBegins.T3 : Bool × List (List Nat × List Nat) := (true, [([], []), ([0, 0], [0]), ([1], [1]), ([1], [1]), ([3, 1], [1, 3]), ([1], [1]), ([5, 1], [1, 5]), ([1], [1]), ([7, 1], [1, 7]), ([1], [1]), ([9, 1], [1, 9]), ([1], [1]), ([4, 6, 8, 10, 11, 1, 1], [1, 4, 6, 8, 10, 11]), ([2, 12, 1], [1, 2, 12]), ([1, 13], [1, 13]), ([14, 12], [14]), ([15], [15]), ([15], [15]), ([17, 15], [15, 17]), ([15], [15]), ([19, 15], [15, 19]), ([18, 20, 15], [15, 18, 20]), ([16, 21, 15], [15, 16, 21]), ([15, 22], [15, 22]), ([23, 15], [23]), ([24], [24]), ([25, 24, 24], [24, 25]), ([24, 26], [24, 26]), ([27, 26, 0, 1, 2, 3, 4, 5, 6, 7, 8, 9, 10, 11, 12, 13, 14, 15, 16, 17, 18, 19, 20, 21, 22, 23, 24, 25, 26, 27], [27])])
def paybooklaw12_CycleBegins.B3 : List Nat := [0, 1, 3, 3, 11, 3, 35, 3, 131, 3, 515, 3, 4091, 8191, 16383, 32767, 65535, 65535, 196607, 65535, 589823, 2031615, 4194303, 8388607, 16777215, 33554431, 67108863, 134217727, 268435455]
theorem paybooklaw12_CycleBegins.tab3 : rtab .any (opsOf Tryd.f6 3) = paybooklaw12_CycleBegins.T3 := by kernel_rfl
theorem paybooklaw12_CycleBegins.bits3 : waitsOk paybooklaw12_CycleBegins.T3.2 paybooklaw12_CycleBegins.B3 = true := by kernel_rfl
set_option maxHeartbeats 40000000 in
set_option maxRecDepth 100000 in
theorem paybooklaw12_CycleBegins.calls (k : Nat) (a0 : Int) (a1 : Int) (a2 : Int) (a3 : Int) (a4 : Bool) (w : World) (hrG0 : Kd.C (Kd.int .i64) w (some ⟨0, 0, none⟩) 3 gl0) (h : paybooklaw12_CycleBegins.f k a0 a1 a2 a3 a4 = some true) :
  Calls Tryd.prog 6 #[.int .u16 a0, .int .u16 a1, .int .u32 a2, .int .i32 a3, .bool a4] w fun e w' => e = .returned (.bool true) ∧ Below w.heap.size w w' := by
 have hu25 := Tryd.underlying25
 have HRG0 := Aside0.mk hrG0
 clear hrG0
 have HB := Aside0.mk (Below.refl w.heap.size w)
 have H : ((cycle_Begin.f (wrap64 (a0)) (wrap64 (a1)) (wrap64 (a2)) (wrap64 (a3)) a4).bind fun bt358 => ((cycle_Pass.f (wrap64 (a0)) (wrap64 (a1))).bind fun bt367 => ((paybooklaw12_awake.f k).bind fun t376 => (if t376 = true then ((paybookref12_Begin.f (wrap64 (a0)) (wrap64 (a1)) (wrap64 (a2)) (wrap64 (a3)) a4).bind fun bt377 => (if (bt358.1 == bt377.1 && (bt358.2.1 == bt377.2.1 && (bt358.2.2.1 == bt377.2.2.1 && (bt358.2.2.2.1 == bt377.2.2.2.1 && (bt358.2.2.2.2.1 == bt377.2.2.2.2.1 && (bt358.2.2.2.2.2.1 == bt377.2.2.2.2.2.1 && (bt358.2.2.2.2.2.2.1 == bt377.2.2.2.2.2.2.1 && (bt358.2.2.2.2.2.2.2 == bt377.2.2.2.2.2.2.2)))))))) = true then (if (bt367.1 == (wrap64 (a0)) && (bt367.2.1 == (wrap64 (a1)) && (bt367.2.2.1 == 10 && (bt367.2.2.2.1 == 0 && (bt367.2.2.2.2.1 == 0 && (bt367.2.2.2.2.2.1 == 0 && (bt367.2.2.2.2.2.2.1 == 0 && (!bt367.2.2.2.2.2.2.2)))))))) = true then ((cycle_Ended.f bt367.1 bt367.2.1 bt367.2.2.1 bt367.2.2.2.1 bt367.2.2.2.2.1 bt367.2.2.2.2.2.1 bt367.2.2.2.2.2.2.1 bt367.2.2.2.2.2.2.2).bind fun t385 => (some t385)) else (some false)) else (some false))) else (some false))))) = some true := h
 clear h
 replace H := Option.bind_eq_some_iff.mp H
 obtain ⟨⟨t358, t359, t360, t361, t362, t363, t364, t365⟩, A60, H⟩ := H
 replace H : ((cycle_Pass.f (wrap64 (a0)) (wrap64 (a1))).bind fun bt367 => ((paybooklaw12_awake.f k).bind fun t376 => (if t376 = true then ((paybookref12_Begin.f (wrap64 (a0)) (wrap64 (a1)) (wrap64 (a2)) (wrap64 (a3)) a4).bind fun bt377 => (if (t358 == bt377.1 && (t359 == bt377.2.1 && (t360 == bt377.2.2.1 && (t361 == bt377.2.2.2.1 && (t362 == bt377.2.2.2.2.1 && (t363 == bt377.2.2.2.2.2.1 && (t364 == bt377.2.2.2.2.2.2.1 && (t365 == bt377.2.2.2.2.2.2.2)))))))) = true then (if (bt367.1 == (wrap64 (a0)) && (bt367.2.1 == (wrap64 (a1)) && (bt367.2.2.1 == 10 && (bt367.2.2.2.1 == 0 && (bt367.2.2.2.2.1 == 0 && (bt367.2.2.2.2.2.1 == 0 && (bt367.2.2.2.2.2.2.1 == 0 && (!bt367.2.2.2.2.2.2.2)))))))) = true then ((cycle_Ended.f bt367.1 bt367.2.1 bt367.2.2.1 bt367.2.2.2.1 bt367.2.2.2.2.1 bt367.2.2.2.2.2.1 bt367.2.2.2.2.2.2.1 bt367.2.2.2.2.2.2.2).bind fun t385 => (some t385)) else (some false)) else (some false))) else (some false)))) = some true := H
 have A6 := Aside0.mk A60
 clear A60
 replace H := Option.bind_eq_some_iff.mp H
 obtain ⟨⟨t367, t368, t369, t370, t371, t372, t373, t374⟩, A70, H⟩ := H
 replace H : ((paybooklaw12_awake.f k).bind fun t376 => (if t376 = true then ((paybookref12_Begin.f (wrap64 (a0)) (wrap64 (a1)) (wrap64 (a2)) (wrap64 (a3)) a4).bind fun bt377 => (if (t358 == bt377.1 && (t359 == bt377.2.1 && (t360 == bt377.2.2.1 && (t361 == bt377.2.2.2.1 && (t362 == bt377.2.2.2.2.1 && (t363 == bt377.2.2.2.2.2.1 && (t364 == bt377.2.2.2.2.2.2.1 && (t365 == bt377.2.2.2.2.2.2.2)))))))) = true then (if (t367 == (wrap64 (a0)) && (t368 == (wrap64 (a1)) && (t369 == 10 && (t370 == 0 && (t371 == 0 && (t372 == 0 && (t373 == 0 && (!t374)))))))) = true then ((cycle_Ended.f t367 t368 t369 t370 t371 t372 t373 t374).bind fun t385 => (some t385)) else (some false)) else (some false))) else (some false))) = some true := H
 have A7 := Aside0.mk A70
 clear A70
 replace H := Option.bind_eq_some_iff.mp H
 obtain ⟨t376, A80, H⟩ := H
 replace H : (if t376 = true then ((paybookref12_Begin.f (wrap64 (a0)) (wrap64 (a1)) (wrap64 (a2)) (wrap64 (a3)) a4).bind fun bt377 => (if (t358 == bt377.1 && (t359 == bt377.2.1 && (t360 == bt377.2.2.1 && (t361 == bt377.2.2.2.1 && (t362 == bt377.2.2.2.2.1 && (t363 == bt377.2.2.2.2.2.1 && (t364 == bt377.2.2.2.2.2.2.1 && (t365 == bt377.2.2.2.2.2.2.2)))))))) = true then (if (t367 == (wrap64 (a0)) && (t368 == (wrap64 (a1)) && (t369 == 10 && (t370 == 0 && (t371 == 0 && (t372 == 0 && (t373 == 0 && (!t374)))))))) = true then ((cycle_Ended.f t367 t368 t369 t370 t371 t372 t373 t374).bind fun t385 => (some t385)) else (some false)) else (some false))) else (some false)) = some true := H
 have A8 := Aside0.mk A80
 clear A80
 by_cases c9 : t376 = true
 ·subst c9
  have H1 : ((paybookref12_Begin.f (wrap64 (a0)) (wrap64 (a1)) (wrap64 (a2)) (wrap64 (a3)) a4).bind fun bt377 => (if (t358 == bt377.1 && (t359 == bt377.2.1 && (t360 == bt377.2.2.1 && (t361 == bt377.2.2.2.1 && (t362 == bt377.2.2.2.2.1 && (t363 == bt377.2.2.2.2.2.1 && (t364 == bt377.2.2.2.2.2.2.1 && (t365 == bt377.2.2.2.2.2.2.2)))))))) = true then (if (t367 == (wrap64 (a0)) && (t368 == (wrap64 (a1)) && (t369 == 10 && (t370 == 0 && (t371 == 0 && (t372 == 0 && (t373 == 0 && (!t374)))))))) = true then ((cycle_Ended.f t367 t368 t369 t370 t371 t372 t373 t374).bind fun t385 => (some t385)) else (some false)) else (some false))) = some true := by rw [if_pos rfl] at H; try exact H
  clear H
  have H := H1
  clear H1
  replace H := Option.bind_eq_some_iff.mp H
  obtain ⟨⟨t377, t378, t379, t380, t381, t382, t383, t384⟩, A100, H⟩ := H
  replace H : (if (t358 == t377 && (t359 == t378 && (t360 == t379 && (t361 == t380 && (t362 == t381 && (t363 == t382 && (t364 == t383 && (t365 == t384)))))))) = true then (if (t367 == (wrap64 (a0)) && (t368 == (wrap64 (a1)) && (t369 == 10 && (t370 == 0 && (t371 == 0 && (t372 == 0 && (t373 == 0 && (!t374)))))))) = true then ((cycle_Ended.f t367 t368 t369 t370 t371 t372 t373 t374).bind fun t385 => (some t385)) else (some false)) else (some false)) = some true := H
  have A10 := Aside0.mk A100
  clear A100
  by_cases c11 : (t358 == t377 && (t359 == t378 && (t360 == t379 && (t361 == t380 && (t362 == t381 && (t363 == t382 && (t364 == t383 && (t365 == t384)))))))) = true
  ·rw [if_pos c11] at H
   have c11b0 : (t358 == t377 && (t359 == t378 && (t360 == t379 && (t361 == t380 && (t362 == t381 && (t363 == t382 && (t364 == t383 && (t365 == t384)))))))) = true := c11
   (try (have c11b1 : decide (t358 = t377 && (t359 == t378 && (t360 == t379 && (t361 == t380 && (t362 == t381 && (t363 == t382 && (t364 == t383 && (t365 == t384)))))))) = true := by simpa using c11))
   (try (have c11b2 : (t358 == t377 && (t359 == t378 && (t360 == t379 && (t361 == t380 && (t362 == t381 && (t363 == t382 && (t364 == t383 && (t365 == t384)))))))) = true := by simpa using c11))
   clear c11
   by_cases c12 : (t367 == (wrap64 (a0)) && (t368 == (wrap64 (a1)) && (t369 == 10 && (t370 == 0 && (t371 == 0 && (t372 == 0 && (t373 == 0 && (!t374)))))))) = true
   ·rw [if_pos c12] at H
    have c12b0 : (t367 == (wrap64 (a0)) && (t368 == (wrap64 (a1)) && (t369 == 10 && (t370 == 0 && (t371 == 0 && (t372 == 0 && (t373 == 0 && (!t374)))))))) = true := c12
    (try (have c12b1 : decide (t367 = (wrap64 (a0)) && (t368 == (wrap64 (a1)) && (t369 == 10 && (t370 == 0 && (t371 == 0 && (t372 == 0 && (t373 == 0 && (!t374)))))))) = true := by simpa using c12))
    (try (have c12b2 : (t367 == (wrap64 (a0)) && (t368 == (wrap64 (a1)) && (t369 == 10 && (t370 == 0 && (t371 == 0 && (t372 == 0 && (t373 == 0 && (!t374)))))))) = true := by simpa using c12))
    clear c12
    replace H := Option.bind_eq_some_iff.mp H
    obtain ⟨t385, A130, H⟩ := H
    replace H : (some t385) = some true := H
    have A13 := Aside0.mk A130
    clear A130
    have HT_ := Option.some.inj H
    clear H
    (try (have HT_z_ := HT_; simp only [beq_true, beq_false, true_beq, false_beq, Bool.not_eq_true', Bool.not_eq_false', Bool.not_true, Bool.not_false] at HT_z_))
    go_enter Tryd.func6, Tryd.ntmps6
    try go_wp2_with (first | ((with_reducible refine gate_callee (f := 20) rfl ?_); refine goesL_ (some 22) rfl rfl Tryd.func20 (by kernel_rfl) rfl #[.int .i64 (wrap64 (a0)), .int .i64 (wrap64 (a1)), .int .i64 (wrap64 (a2)), .int .i64 (wrap64 (a3)), .bool a4] rfl (by (try simp only [List.map_toArray, List.map_cons, List.map_nil]); first | done | rfl | (simp only [List.length_drop, List.length_take]; rfl)) ?_; (with_reducible refine (cycle_Begin.calls (wrap64 (a0)) (wrap64 (a1)) (wrap64 (a2)) (wrap64 (a3)) a4 t358 t359 t360 t361 t362 t363 t364 t365 _ A6.out).mono ?_); rintro e w14 ⟨rfl, hb⟩; refine ⟨_, rfl, ?_⟩; have n0_ := Aside0.mk (below_step (by repeat (first | (with_reducible first | exact HB.out | apply kL | apply kM | apply kE) | exact HB.out)) hb); clear HB; have HB := n0_; clear n0_; (try clear hb); (try clear hb2); (try clear hk); (try clear hi)) | ((with_reducible refine gate_dst (N := 11) rfl ?_); refine box_event ?hg (N := 11) ?hd (cs := #[.int .i64 0, .int .i64 0, .int .u8 0, .int .i64 0, .int .i64 0, .int .i64 0, .int .i64 0, .bool false]) (t := 25) ?hr ?_; (case hd => rfl); (case hg => rfl); (case hr => first | (go_simp; done) | (go_simp; rfl)); intro gb366 hg w15 hbox hb; have n0_ := Aside0.mk (below_step (by repeat (first | (with_reducible first | exact HB.out | apply kL | apply kM | apply kE) | exact HB.out)) hb); have n1_ := Aside0.mk (hbox); have n2_ := Aside0.mk ((by rw [hg]; exact (below_size (by repeat (first | (with_reducible first | exact HB.out | apply kL | apply kM | apply kE) | exact HB.out))) : w.heap.size ≤ gb366)); have n3_ := Aside0.mk ((by rw [hg]; exact (below_size (by repeat (first | (with_reducible first | exact HB.out | apply kL | apply kM | apply kE) | exact HB.out))) : w.heap.size ≤ gb366)); clear HB; have HB := n0_; have BK366 := n1_; have GW366 := n2_; have GE366 := n3_; clear n0_ n1_ n2_ n3_; clear hb hbox hg; have hcz16_0 : w15.cell? ⟨gb366, 0, none⟩ = some (.int .i64 0) := (kC BK366.out 0).trans rfl; have hcz16_1 : w15.cell? ⟨gb366, 1, none⟩ = some (.int .i64 0) := (kC BK366.out 1).trans rfl; have hcz16_2 : w15.cell? ⟨gb366, 2, none⟩ = some (.int .u8 0) := (kC BK366.out 2).trans rfl; have hcz16_3 : w15.cell? ⟨gb366, 3, none⟩ = some (.int .i64 0) := (kC BK366.out 3).trans rfl; have hcz16_4 : w15.cell? ⟨gb366, 4, none⟩ = some (.int .i64 0) := (kC BK366.out 4).trans rfl; have hcz16_5 : w15.cell? ⟨gb366, 5, none⟩ = some (.int .i64 0) := (kC BK366.out 5).trans rfl; have hcz16_6 : w15.cell? ⟨gb366, 6, none⟩ = some (.int .i64 0) := (kC BK366.out 6).trans rfl; have hcz16_7 : w15.cell? ⟨gb366, 7, none⟩ = some (.bool false) := (kC BK366.out 7).trans rfl; have hfz16_0 := kF BK366.out 0; have hfz16_1 := kF BK366.out 1; have hfz16_2 := kF BK366.out 2; have hfz16_3 := kF BK366.out 3; have hfz16_4 := kF BK366.out 4; have hfz16_5 := kF BK366.out 5; have hfz16_6 := kF BK366.out 6; have hfz16_7 := kF BK366.out 7) | ((with_reducible refine gate_callee (f := 21) rfl ?_); refine goesL_ (some 27) rfl rfl Tryd.func21 (by kernel_rfl) rfl #[.int .i64 (wrap64 (a0)), .int .i64 (wrap64 (a1))] rfl (by (try simp only [List.map_toArray, List.map_cons, List.map_nil]); first | done | rfl | (simp only [List.length_drop, List.length_take]; rfl)) ?_; (with_reducible refine (cycle_Pass.calls (wrap64 (a0)) (wrap64 (a1)) t367 t368 t369 t370 t371 t372 t373 t374 _ A7.out).mono ?_); rintro e w17 ⟨rfl, hb⟩; refine ⟨_, rfl, ?_⟩; have n0_ := Aside0.mk (blk_below (g := gb366) (o := .cells #[.int .i64 t358, .int .i64 t359, .int .u8 t360, .int .i64 t361, .int .i64 t362, .int .i64 t363, .int .i64 t364, .bool t365] 25 (0, 0)) (by (with_reducible repeat (first | refine kN ?_ _ | refine kD ?_ | refine kA ?_ _)); refine kP (cs := #[.int .i64 t358, .int .i64 t359, .int .u8 t360, .int .i64 t361, .int .i64 t362, .int .i64 t363, .int .i64 t364, .bool false]) ?_ 7 _ rfl; (with_reducible repeat (first | refine kN ?_ _ | refine kD ?_ | refine kA ?_ _)); refine kP (cs := #[.int .i64 t358, .int .i64 t359, .int .u8 t360, .int .i64 t361, .int .i64 t362, .int .i64 t363, .int .i64 0, .bool false]) ?_ 6 _ rfl; (with_reducible repeat (first | refine kN ?_ _ | refine kD ?_ | refine kA ?_ _)); refine kP (cs := #[.int .i64 t358, .int .i64 t359, .int .u8 t360, .int .i64 t361, .int .i64 t362, .int .i64 0, .int .i64 0, .bool false]) ?_ 5 _ rfl; (with_reducible repeat (first | refine kN ?_ _ | refine kD ?_ | refine kA ?_ _)); refine kP (cs := #[.int .i64 t358, .int .i64 t359, .int .u8 t360, .int .i64 t361, .int .i64 0, .int .i64 0, .int .i64 0, .bool false]) ?_ 4 _ rfl; (with_reducible repeat (first | refine kN ?_ _ | refine kD ?_ | refine kA ?_ _)); refine kP (cs := #[.int .i64 t358, .int .i64 t359, .int .u8 t360, .int .i64 0, .int .i64 0, .int .i64 0, .int .i64 0, .bool false]) ?_ 3 _ rfl; (with_reducible repeat (first | refine kN ?_ _ | refine kD ?_ | refine kA ?_ _)); refine kP (cs := #[.int .i64 t358, .int .i64 t359, .int .u8 0, .int .i64 0, .int .i64 0, .int .i64 0, .int .i64 0, .bool false]) ?_ 2 _ rfl; (with_reducible repeat (first | refine kN ?_ _ | refine kD ?_ | refine kA ?_ _)); refine kP (cs := #[.int .i64 t358, .int .i64 0, .int .u8 0, .int .i64 0, .int .i64 0, .int .i64 0, .int .i64 0, .bool false]) ?_ 1 _ rfl; (with_reducible repeat (first | refine kN ?_ _ | refine kD ?_ | refine kA ?_ _)); refine kP (cs := #[.int .i64 0, .int .i64 0, .int .u8 0, .int .i64 0, .int .i64 0, .int .i64 0, .int .i64 0, .bool false]) ?_ 0 _ rfl; (with_reducible repeat (first | refine kN ?_ _ | refine kD ?_ | refine kA ?_ _)); exact BK366.out) hb); have n1_ := Aside0.mk (below_step (by repeat (first | (with_reducible first | exact HB.out | apply kL | apply kM | apply kE | refine kS ?_ GE366.out) | exact HB.out)) hb); clear BK366; clear HB; have BK366 := n0_; have HB := n1_; clear n0_ n1_; (try clear hb); (try clear hb2); (try clear hk); (try clear hi)) | ((with_reducible refine gate_dst (N := 12) rfl ?_); refine box_event ?hg (N := 12) ?hd (cs := #[.int .i64 0, .int .i64 0, .int .u8 0, .int .i64 0, .int .i64 0, .int .i64 0, .int .i64 0, .bool false]) (t := 25) ?hr ?_; (case hd => rfl); (case hg => rfl); (case hr => first | (go_simp; done) | (go_simp; rfl)); intro gb375 hg w18 hbox hb; have n0_ := Aside0.mk (blk_below (g := gb366) (o := .cells #[.int .i64 t358, .int .i64 t359, .int .u8 t360, .int .i64 t361, .int .i64 t362, .int .i64 t363, .int .i64 t364, .bool t365] 25 (0, 0)) (by (with_reducible repeat (first | refine kN ?_ _ | refine kD ?_ | refine kA ?_ _)); exact BK366.out) hb); have n1_ := Aside0.mk (below_step (by repeat (first | (with_reducible first | exact HB.out | apply kL | apply kM | apply kE | refine kS ?_ GE366.out) | exact HB.out)) hb); have n2_ := Aside0.mk (hbox); have n3_ := Aside0.mk ((by rw [hg]; exact (below_size (by repeat (first | (with_reducible first | exact HB.out | apply kL | apply kM | apply kE | refine kS ?_ GE366.out) | exact HB.out))) : w.heap.size ≤ gb375)); have n4_ := Aside0.mk ((by rw [hg]; exact (below_size (by repeat (first | (with_reducible first | exact HB.out | apply kL | apply kM | apply kE | refine kS ?_ GE366.out) | exact HB.out))) : w.heap.size ≤ gb375)); have n5_ := Aside0.mk ((by rw [hg]; exact Nat.ne_of_lt (blk_lt (g := gb366) (o := .cells #[.int .i64 t358, .int .i64 t359, .int .u8 t360, .int .i64 t361, .int .i64 t362, .int .i64 t363, .int .i64 t364, .bool t365] 25 (0, 0)) (by (with_reducible repeat (first | refine kN ?_ _ | refine kD ?_ | refine kA ?_ _)); exact BK366.out)) : gb366 ≠ gb375)); have n6_ := Aside0.mk ((by rw [hg]; exact Nat.ne_of_gt (blk_lt (g := gb366) (o := .cells #[.int .i64 t358, .int .i64 t359, .int .u8 t360, .int .i64 t361, .int .i64 t362, .int .i64 t363, .int .i64 t364, .bool t365] 25 (0, 0)) (by (with_reducible repeat (first | refine kN ?_ _ | refine kD ?_ | refine kA ?_ _)); exact BK366.out)) : gb375 ≠ gb366)); clear BK366; clear HB; have BK366 := n0_; have HB := n1_; have BK375 := n2_; have GW375 := n3_; have GE375 := n4_; have NB366_375 := n5_; have NB375_366 := n6_; clear n0_ n1_ n2_ n3_ n4_ n5_ n6_; clear hb hbox hg; have hnb19 := NB375_366.out; have hnc19 := NB366_375.out; have hcz20_0 : w18.cell? ⟨gb375, 0, none⟩ = some (.int .i64 0) := (kC BK375.out 0).trans rfl; have hcz20_1 : w18.cell? ⟨gb375, 1, none⟩ = some (.int .i64 0) := (kC BK375.out 1).trans rfl; have hcz20_2 : w18.cell? ⟨gb375, 2, none⟩ = some (.int .u8 0) := (kC BK375.out 2).trans rfl; have hcz20_3 : w18.cell? ⟨gb375, 3, none⟩ = some (.int .i64 0) := (kC BK375.out 3).trans rfl; have hcz20_4 : w18.cell? ⟨gb375, 4, none⟩ = some (.int .i64 0) := (kC BK375.out 4).trans rfl; have hcz20_5 : w18.cell? ⟨gb375, 5, none⟩ = some (.int .i64 0) := (kC BK375.out 5).trans rfl; have hcz20_6 : w18.cell? ⟨gb375, 6, none⟩ = some (.int .i64 0) := (kC BK375.out 6).trans rfl; have hcz20_7 : w18.cell? ⟨gb375, 7, none⟩ = some (.bool false) := (kC BK375.out 7).trans rfl; have hfz20_0 := kF BK375.out 0; have hfz20_1 := kF BK375.out 1; have hfz20_2 := kF BK375.out 2; have hfz20_3 := kF BK375.out 3; have hfz20_4 := kF BK375.out 4; have hfz20_5 := kF BK375.out 5; have hfz20_6 := kF BK375.out 6; have hfz20_7 := kF BK375.out 7))
    have n0_ : Aside0 (((((((((w18.setCell ⟨gb375, 0, none⟩ (.int .i64 t367)).setCell ⟨gb375, 1, none⟩ (.int .i64 t368)).setCell ⟨gb375, 2, none⟩ (.int .u8 t369)).setCell ⟨gb375, 3, none⟩ (.int .i64 t370)).setCell ⟨gb375, 4, none⟩ (.int .i64 t371)).setCell ⟨gb375, 5, none⟩ (.int .i64 t372)).setCell ⟨gb375, 6, none⟩ (.int .i64 t373)).setCell ⟨gb375, 7, none⟩ (.bool t374)).heap[gb366]? = some (.cells #[.int .i64 t358, .int .i64 t359, .int .u8 t360, .int .i64 t361, .int .i64 t362, .int .i64 t363, .int .i64 t364, .bool t365] 25 (0, 0))) := ⟨by (with_reducible repeat (first | refine kN ?_ _ | refine kD ?_ | refine kA ?_ _)); refine kR ?_ NB366_375.out _; (with_reducible repeat (first | refine kN ?_ _ | refine kD ?_ | refine kA ?_ _)); refine kR ?_ NB366_375.out _; (with_reducible repeat (first | refine kN ?_ _ | refine kD ?_ | refine kA ?_ _)); refine kR ?_ NB366_375.out _; (with_reducible repeat (first | refine kN ?_ _ | refine kD ?_ | refine kA ?_ _)); refine kR ?_ NB366_375.out _; (with_reducible repeat (first | refine kN ?_ _ | refine kD ?_ | refine kA ?_ _)); refine kR ?_ NB366_375.out _; (with_reducible repeat (first | refine kN ?_ _ | refine kD ?_ | refine kA ?_ _)); refine kR ?_ NB366_375.out _; (with_reducible repeat (first | refine kN ?_ _ | refine kD ?_ | refine kA ?_ _)); refine kR ?_ NB366_375.out _; (with_reducible repeat (first | refine kN ?_ _ | refine kD ?_ | refine kA ?_ _)); refine kR ?_ NB366_375.out _; (with_reducible repeat (first | refine kN ?_ _ | refine kD ?_ | refine kA ?_ _)); exact BK366.out⟩
    have n1_ : Aside0 (((((((((w18.setCell ⟨gb375, 0, none⟩ (.int .i64 t367)).setCell ⟨gb375, 1, none⟩ (.int .i64 t368)).setCell ⟨gb375, 2, none⟩ (.int .u8 t369)).setCell ⟨gb375, 3, none⟩ (.int .i64 t370)).setCell ⟨gb375, 4, none⟩ (.int .i64 t371)).setCell ⟨gb375, 5, none⟩ (.int .i64 t372)).setCell ⟨gb375, 6, none⟩ (.int .i64 t373)).setCell ⟨gb375, 7, none⟩ (.bool t374)).heap[gb375]? = some (.cells #[.int .i64 t367, .int .i64 t368, .int .u8 t369, .int .i64 t370, .int .i64 t371, .int .i64 t372, .int .i64 t373, .bool t374] 25 (0, 0))) := ⟨by (with_reducible repeat (first | refine kN ?_ _ | refine kD ?_ | refine kA ?_ _)); refine kP (cs := #[.int .i64 t367, .int .i64 t368, .int .u8 t369, .int .i64 t370, .int .i64 t371, .int .i64 t372, .int .i64 t373, .bool false]) ?_ 7 _ rfl; (with_reducible repeat (first | refine kN ?_ _ | refine kD ?_ | refine kA ?_ _)); refine kP (cs := #[.int .i64 t367, .int .i64 t368, .int .u8 t369, .int .i64 t370, .int .i64 t371, .int .i64 t372, .int .i64 0, .bool false]) ?_ 6 _ rfl; (with_reducible repeat (first | refine kN ?_ _ | refine kD ?_ | refine kA ?_ _)); refine kP (cs := #[.int .i64 t367, .int .i64 t368, .int .u8 t369, .int .i64 t370, .int .i64 t371, .int .i64 0, .int .i64 0, .bool false]) ?_ 5 _ rfl; (with_reducible repeat (first | refine kN ?_ _ | refine kD ?_ | refine kA ?_ _)); refine kP (cs := #[.int .i64 t367, .int .i64 t368, .int .u8 t369, .int .i64 t370, .int .i64 0, .int .i64 0, .int .i64 0, .bool false]) ?_ 4 _ rfl; (with_reducible repeat (first | refine kN ?_ _ | refine kD ?_ | refine kA ?_ _)); refine kP (cs := #[.int .i64 t367, .int .i64 t368, .int .u8 t369, .int .i64 0, .int .i64 0, .int .i64 0, .int .i64 0, .bool false]) ?_ 3 _ rfl; (with_reducible repeat (first | refine kN ?_ _ | refine kD ?_ | refine kA ?_ _)); refine kP (cs := #[.int .i64 t367, .int .i64 t368, .int .u8 0, .int .i64 0, .int .i64 0, .int .i64 0, .int .i64 0, .bool false]) ?_ 2 _ rfl; (with_reducible repeat (first | refine kN ?_ _ | refine kD ?_ | refine kA ?_ _)); refine kP (cs := #[.int .i64 t367, .int .i64 0, .int .u8 0, .int .i64 0, .int .i64 0, .int .i64 0, .int .i64 0, .bool false]) ?_ 1 _ rfl; (with_reducible repeat (first | refine kN ?_ _ | refine kD ?_ | refine kA ?_ _)); refine kP (cs := #[.int .i64 0, .int .i64 0, .int .u8 0, .int .i64 0, .int .i64 0, .int .i64 0, .int .i64 0, .bool false]) ?_ 0 _ rfl; (with_reducible repeat (first | refine kN ?_ _ | refine kD ?_ | refine kA ?_ _)); exact BK375.out⟩
    have n2_ : Aside0 (Below w.heap.size w ((((((((w18.setCell ⟨gb375, 0, none⟩ (.int .i64 t367)).setCell ⟨gb375, 1, none⟩ (.int .i64 t368)).setCell ⟨gb375, 2, none⟩ (.int .u8 t369)).setCell ⟨gb375, 3, none⟩ (.int .i64 t370)).setCell ⟨gb375, 4, none⟩ (.int .i64 t371)).setCell ⟨gb375, 5, none⟩ (.int .i64 t372)).setCell ⟨gb375, 6, none⟩ (.int .i64 t373)).setCell ⟨gb375, 7, none⟩ (.bool t374))) := ⟨by repeat (first | (with_reducible first | exact HB.out | apply kL | apply kM | apply kE | refine kS ?_ GE366.out | refine kS ?_ GE375.out) | exact HB.out)⟩
    (try clear BK366)
    (try clear BK375)
    (try clear HB)
    generalize ((((((((w18.setCell ⟨gb375, 0, none⟩ (.int .i64 t367)).setCell ⟨gb375, 1, none⟩ (.int .i64 t368)).setCell ⟨gb375, 2, none⟩ (.int .u8 t369)).setCell ⟨gb375, 3, none⟩ (.int .i64 t370)).setCell ⟨gb375, 4, none⟩ (.int .i64 t371)).setCell ⟨gb375, 5, none⟩ (.int .i64 t372)).setCell ⟨gb375, 6, none⟩ (.int .i64 t373)).setCell ⟨gb375, 7, none⟩ (.bool t374)) = w21 at n0_ n1_ n2_ ⊢
    have BK366 := n0_
    have BK375 := n1_
    have HB := n2_
    clear n0_ n1_ n2_
    have n0_ := Aside0.mk (kD BK366.out)
    have n1_ := Aside0.mk (kD BK375.out)
    have n2_ := Aside0.mk (kE HB.out)
    clear BK366
    clear BK375
    clear HB
    have BK366 := n0_
    have BK375 := n1_
    have HB := n2_
    clear n0_ n1_ n2_
    refine start_ (n := 29) (S := fun w' => w'.cell? ⟨gb366, 0, none⟩ = some (.int .i64 t358) ∧ w'.cell? ⟨gb366, 1, none⟩ = some (.int .i64 t359) ∧ w'.cell? ⟨gb366, 2, none⟩ = some (.int .u8 t360) ∧ w'.cell? ⟨gb366, 3, none⟩ = some (.int .i64 t361) ∧ w'.cell? ⟨gb366, 4, none⟩ = some (.int .i64 t362) ∧ w'.cell? ⟨gb366, 5, none⟩ = some (.int .i64 t363) ∧ w'.cell? ⟨gb366, 6, none⟩ = some (.int .i64 t364) ∧ w'.cell? ⟨gb366, 7, none⟩ = some (.bool t365) ∧ w'.cell? ⟨gb375, 0, none⟩ = some (.int .i64 t367) ∧ w'.cell? ⟨gb375, 1, none⟩ = some (.int .i64 t368) ∧ w'.cell? ⟨gb375, 2, none⟩ = some (.int .u8 t369) ∧ w'.cell? ⟨gb375, 3, none⟩ = some (.int .i64 t370) ∧ w'.cell? ⟨gb375, 4, none⟩ = some (.int .i64 t371) ∧ w'.cell? ⟨gb375, 5, none⟩ = some (.int .i64 t372) ∧ w'.cell? ⟨gb375, 6, none⟩ = some (.int .i64 t373) ∧ w'.cell? ⟨gb375, 7, none⟩ = some (.bool t374)) (ds := []) #[F,F,F,F,F,F,F,F,F,F,F,F,F,F,F,F,F,F,F,F,F,F,F,F,F,F,F,F,F] (by kernel_rfl) rfl rfl ⟨(kC BK366.out 0).trans rfl, (kC BK366.out 1).trans rfl, (kC BK366.out 2).trans rfl, (kC BK366.out 3).trans rfl, (kC BK366.out 4).trans rfl, (kC BK366.out 5).trans rfl, (kC BK366.out 6).trans rfl, (kC BK366.out 7).trans rfl, (kC BK375.out 0).trans rfl, (kC BK375.out 1).trans rfl, (kC BK375.out 2).trans rfl, (kC BK375.out 3).trans rfl, (kC BK375.out 4).trans rfl, (kC BK375.out 5).trans rfl, (kC BK375.out 6).trans rfl, (kC BK375.out 7).trans rfl⟩ (fun hHeld => ?_); refine with_tabW paybooklaw12_CycleBegins.tab3 paybooklaw12_CycleBegins.bits3 (fun HT_ HW_ => ?_)
    generalize w21.drew = w22 at BK366 BK375 HB hHeld ⊢
    refine one_ (i := 0) (N := some 28) #[T,F,F,F,F,F,F,F,F,F,F,F,F,F,F,F,F,F,F,F,F,F,F,F,F,F,F,F,F] rfl rfl (one_of HT_.out (by kernel_rfl)) (by decide) (fun K hK => ?_)
    refine goes_ Tryd.func15 (by kernel_rfl) rfl #[] (by rfl) rfl rfl (by (try simp only [List.map_toArray, List.map_cons, List.map_nil]); first | done | rfl | (simp only [List.length_drop, List.length_take]; rfl)) ?_
    with_reducible refine (paybooklaw12_awake.calls k  true _ ?side1 A8.out).mono ?_
    (case side1 => repeat (first | exact (Kd.C_below HRG0.out HB.out) | exact HRG0.out | (with_reducible refine Kd.C_alloc ?_ _) | (with_reducible refine Kd.C_drewN ?_ _) | (with_reducible refine Kd.C_drew ?_)))
    rintro e w23 ⟨rfl, hb⟩
    refine ⟨_, rfl, ?_⟩
    have n0_ := Aside0.mk (blk_below (g := gb366) (o := .cells #[.int .i64 t358, .int .i64 t359, .int .u8 t360, .int .i64 t361, .int .i64 t362, .int .i64 t363, .int .i64 t364, .bool t365] 25 (0, 0)) (by (with_reducible repeat (first | refine kN ?_ _ | refine kD ?_ | refine kA ?_ _)); exact BK366.out) hb)
    have n1_ := Aside0.mk (blk_below (g := gb375) (o := .cells #[.int .i64 t367, .int .i64 t368, .int .u8 t369, .int .i64 t370, .int .i64 t371, .int .i64 t372, .int .i64 t373, .bool t374] 25 (0, 0)) (by (with_reducible repeat (first | refine kN ?_ _ | refine kD ?_ | refine kA ?_ _)); exact BK375.out) hb)
    have n2_ := Aside0.mk (below_step (by repeat (first | (with_reducible first | exact HB.out | apply kL | apply kM | apply kE | refine kS ?_ GE366.out | refine kS ?_ GE375.out) | exact HB.out)) hb)
    clear BK366
    clear BK375
    clear HB
    have BK366 := n0_
    have BK375 := n1_
    have HB := n2_
    clear n0_ n1_ n2_
    (try clear hb)
    (try clear hb2)
    (try clear hk)
    (try clear hi)
    refine hK.out _ _ ⟨(kC BK366.out 0).trans rfl, (kC BK366.out 1).trans rfl, (kC BK366.out 2).trans rfl, (kC BK366.out 3).trans rfl, (kC BK366.out 4).trans rfl, (kC BK366.out 5).trans rfl, (kC BK366.out 6).trans rfl, (kC BK366.out 7).trans rfl, (kC BK375.out 0).trans rfl, (kC BK375.out 1).trans rfl, (kC BK375.out 2).trans rfl, (kC BK375.out 3).trans rfl, (kC BK375.out 4).trans rfl, (kC BK375.out 5).trans rfl, (kC BK375.out 6).trans rfl, (kC BK375.out 7).trans rfl⟩ (fun hHeld => ?_)
    clear hK K
    refine norm_ (a' := ?_) ?_ ?_
    rotate_left
    ·show Act.put _ (some 28) _ = _
     simp only [Act.put, List.setIfInBounds_toArray, List.set_cons_zero, List.set_cons_succ, i64_w, i32_w]
     rfl
    refine pure_ (i := 1) (N := some 29) (v := ?_) (a' := ?_) #[T,T,F,F,F,F,F,F,F,F,F,F,F,F,F,F,F,F,F,F,F,F,F,F,F,F,F,F,F] rfl rfl (any_of HT_.out (by kernel_rfl)) (fun _ _ _ h => h) (Or.inl ⟨by rfl, ?_⟩) ?_ ?_
    rotate_left
    ·intro w'
     go_simp
     with_reducible rfl
    rotate_left
    ·simp only [Act.put, List.setIfInBounds_toArray, List.set_cons_zero, List.set_cons_succ, i64_w, i32_w]
     rfl
    refine pure_ (i := 3) (N := some 31) (v := ?_) (a' := ?_) #[T,T,F,T,F,F,F,F,F,F,F,F,F,F,F,F,F,F,F,F,F,F,F,F,F,F,F,F,F] rfl rfl (any_of HT_.out (by kernel_rfl)) (fun _ _ _ h => h) (Or.inl ⟨by rfl, ?_⟩) ?_ ?_
    rotate_left
    ·intro w'
     go_simp
     with_reducible rfl
    rotate_left
    ·simp only [Act.put, List.setIfInBounds_toArray, List.set_cons_zero, List.set_cons_succ, i64_w, i32_w]
     rfl
    refine pure_ (i := 4) (N := some 32) (v := ?_) (a' := ?_) #[T,T,F,T,T,F,F,F,F,F,F,F,F,F,F,F,F,F,F,F,F,F,F,F,F,F,F,F,F] rfl rfl (any_of HT_.out (by kernel_rfl)) (fun _ _ _ h => h) (Or.inl ⟨by rfl, ?_⟩) ?_ ?_
    rotate_left
    ·intro w'
     go_simp
     with_reducible rfl
    rotate_left
    ·simp only [Act.put, List.setIfInBounds_toArray, List.set_cons_zero, List.set_cons_succ, i64_w, i32_w]
     rfl
    refine pure_ (i := 5) (N := some 33) (v := ?_) (a' := ?_) #[T,T,F,T,T,T,F,F,F,F,F,F,F,F,F,F,F,F,F,F,F,F,F,F,F,F,F,F,F] rfl rfl (any_of HT_.out (by kernel_rfl)) (fun _ _ _ h => h) (Or.inl ⟨by rfl, ?_⟩) ?_ ?_
    rotate_left
    ·intro w'
     go_simp
     with_reducible rfl
    rotate_left
    ·simp only [Act.put, List.setIfInBounds_toArray, List.set_cons_zero, List.set_cons_succ, i64_w, i32_w]
     rfl
    refine pure_ (i := 6) (N := some 34) (v := ?_) (a' := ?_) #[T,T,F,T,T,T,T,F,F,F,F,F,F,F,F,F,F,F,F,F,F,F,F,F,F,F,F,F,F] rfl rfl (any_of HT_.out (by kernel_rfl)) (fun _ _ _ h => h) (Or.inl ⟨by rfl, ?_⟩) ?_ ?_
    rotate_left
    ·intro w'
     go_simp
     with_reducible rfl
    rotate_left
    ·simp only [Act.put, List.setIfInBounds_toArray, List.set_cons_zero, List.set_cons_succ, i64_w, i32_w]
     rfl
    refine pure_ (i := 7) (N := some 35) (v := ?_) (a' := ?_) #[T,T,F,T,T,T,T,T,F,F,F,F,F,F,F,F,F,F,F,F,F,F,F,F,F,F,F,F,F] rfl rfl (any_of HT_.out (by kernel_rfl)) (fun _ _ _ h => h) (Or.inl ⟨by rfl, ?_⟩) ?_ ?_
    rotate_left
    ·intro w'
     go_simp
     with_reducible rfl
    rotate_left
    ·simp only [Act.put, List.setIfInBounds_toArray, List.set_cons_zero, List.set_cons_succ, i64_w, i32_w]
     rfl
    refine pure_ (i := 8) (N := some 36) (v := ?_) (a' := ?_) #[T,T,F,T,T,T,T,T,T,F,F,F,F,F,F,F,F,F,F,F,F,F,F,F,F,F,F,F,F] rfl rfl (any_of HT_.out (by kernel_rfl)) (fun _ _ _ h => h) (Or.inl ⟨by rfl, ?_⟩) ?_ ?_
    rotate_left
    ·intro w'
     go_simp
     with_reducible rfl
    rotate_left
    ·simp only [Act.put, List.setIfInBounds_toArray, List.set_cons_zero, List.set_cons_succ, i64_w, i32_w]
     rfl
    refine pure_ (i := 9) (N := some 37) (v := ?_) (a' := ?_) #[T,T,F,T,T,T,T,T,T,T,F,F,F,F,F,F,F,F,F,F,F,F,F,F,F,F,F,F,F] rfl rfl (any_of HT_.out (by kernel_rfl)) (fun _ _ _ h => h) (Or.inl ⟨by rfl, ?_⟩) ?_ ?_
    rotate_left
    ·intro w'
     go_simp
     with_reducible rfl
    rotate_left
    ·simp only [Act.put, List.setIfInBounds_toArray, List.set_cons_zero, List.set_cons_succ, i64_w, i32_w]
     rfl
    refine pure_ (i := 10) (N := some 38) (v := ?_) (a' := ?_) #[T,T,F,T,T,T,T,T,T,T,T,F,F,F,F,F,F,F,F,F,F,F,F,F,F,F,F,F,F] rfl rfl (any_of HT_.out (by kernel_rfl)) (fun _ _ _ h => h) (Or.inl ⟨by rfl, ?_⟩) ?_ ?_
    rotate_left
    ·intro w'
     go_simp
     with_reducible rfl
    rotate_left
    ·simp only [Act.put, List.setIfInBounds_toArray, List.set_cons_zero, List.set_cons_succ, i64_w, i32_w]
     rfl
    refine pure_ (i := 11) (N := some 39) (v := ?_) (a' := ?_) #[T,T,F,T,T,T,T,T,T,T,T,T,F,F,F,F,F,F,F,F,F,F,F,F,F,F,F,F,F] rfl rfl (any_of HT_.out (by kernel_rfl)) (fun _ _ _ h => h) (Or.inl ⟨by rfl, ?_⟩) ?_ ?_
    rotate_left
    ·intro w'
     go_simp
     with_reducible rfl
    rotate_left
    ·simp only [Act.put, List.setIfInBounds_toArray, List.set_cons_zero, List.set_cons_succ, i64_w, i32_w]
     rfl
    refine take_ (i := 2) (N := some 30) (v := ?_) (a' := ?_) #[T,T,T,T,T,T,T,T,T,T,T,T,F,F,F,F,F,F,F,F,F,F,F,F,F,F,F,F,F] rfl rfl (take_ofW HT_.out HW_.out (by kernel_rfl)) (fun _ _ _ h => h) (Or.inl ⟨by rfl, ?_⟩) hHeld ?_ ?_
    rotate_left
    ·rintro w' ⟨s0, s1, s2, s3, s4, s5, s6, s7, s8, s9, s10, s11, s12, s13, s14, s15⟩
     go_simp
     with_reducible rfl
    rotate_left
    ·simp only [Act.put, List.setIfInBounds_toArray, List.set_cons_zero, List.set_cons_succ, i64_w, i32_w]
     rfl
    refine one_ (i := 12) (N := some 40) #[T,T,T,T,T,T,T,T,T,T,T,T,T,F,F,F,F,F,F,F,F,F,F,F,F,F,F,F,F] rfl rfl (one_of HT_.out (by kernel_rfl)) (by decide) (fun K hK => ?_)
    refine goes_ Tryd.func22 (by kernel_rfl) rfl #[.int .i64 (wrap64 (a0)), .int .i64 (wrap64 (a1)), .int .i64 (wrap64 (a2)), .int .i64 (wrap64 (a3)), .bool a4] (by rfl) rfl rfl (by (try simp only [List.map_toArray, List.map_cons, List.map_nil]); first | done | rfl | (simp only [List.length_drop, List.length_take]; rfl)) ?_
    with_reducible refine (paybookref12_Begin.calls (wrap64 (a0)) (wrap64 (a1)) (wrap64 (a2)) (wrap64 (a3)) a4 t377 t378 t379 t380 t381 t382 t383 t384 _ A10.out).mono ?_
    rintro e w24 ⟨rfl, hb⟩
    refine ⟨_, rfl, ?_⟩
    have n0_ := Aside0.mk (blk_below (g := gb366) (o := .cells #[.int .i64 t358, .int .i64 t359, .int .u8 t360, .int .i64 t361, .int .i64 t362, .int .i64 t363, .int .i64 t364, .bool t365] 25 (0, 0)) (by (with_reducible repeat (first | refine kN ?_ _ | refine kD ?_ | refine kA ?_ _)); exact BK366.out) hb)
    have n1_ := Aside0.mk (blk_below (g := gb375) (o := .cells #[.int .i64 t367, .int .i64 t368, .int .u8 t369, .int .i64 t370, .int .i64 t371, .int .i64 t372, .int .i64 t373, .bool t374] 25 (0, 0)) (by (with_reducible repeat (first | refine kN ?_ _ | refine kD ?_ | refine kA ?_ _)); exact BK375.out) hb)
    have n2_ := Aside0.mk (below_step (by repeat (first | (with_reducible first | exact HB.out | apply kL | apply kM | apply kE | refine kS ?_ GE366.out | refine kS ?_ GE375.out) | exact HB.out)) hb)
    clear BK366
    clear BK375
    clear HB
    have BK366 := n0_
    have BK375 := n1_
    have HB := n2_
    clear n0_ n1_ n2_
    (try clear hb)
    (try clear hb2)
    (try clear hk)
    (try clear hi)
    refine hK.out _ _ ⟨(kC BK366.out 0).trans rfl, (kC BK366.out 1).trans rfl, (kC BK366.out 2).trans rfl, (kC BK366.out 3).trans rfl, (kC BK366.out 4).trans rfl, (kC BK366.out 5).trans rfl, (kC BK366.out 6).trans rfl, (kC BK366.out 7).trans rfl, (kC BK375.out 0).trans rfl, (kC BK375.out 1).trans rfl, (kC BK375.out 2).trans rfl, (kC BK375.out 3).trans rfl, (kC BK375.out 4).trans rfl, (kC BK375.out 5).trans rfl, (kC BK375.out 6).trans rfl, (kC BK375.out 7).trans rfl⟩ (fun hHeld => ?_)
    clear hK K
    refine norm_ (a' := ?_) ?_ ?_
    rotate_left
    ·show Act.put _ (some 40) _ = _
     simp only [Act.put, List.setIfInBounds_toArray, List.set_cons_zero, List.set_cons_succ, i64_w, i32_w]
     rfl
    refine pure_ (i := 13) (N := some 41) (v := ?_) (a' := ?_) #[T,T,T,T,T,T,T,T,T,T,T,T,T,T,F,F,F,F,F,F,F,F,F,F,F,F,F,F,F] rfl rfl (any_of HT_.out (by kernel_rfl)) (fun _ _ _ h => h) (Or.inl ⟨by rfl, ?_⟩) ?_ ?_
    rotate_left
    ·intro w'
     go_simp
     with_reducible rfl
    rotate_left
    ·simp only [Act.put, List.setIfInBounds_toArray, List.set_cons_zero, List.set_cons_succ, i64_w, i32_w]
     rfl
    refine pure_ (i := 14) (N := some 42) (v := ?_) (a' := ?_) #[T,T,T,T,T,T,T,T,T,T,T,T,T,T,T,F,F,F,F,F,F,F,F,F,F,F,F,F,F] rfl rfl (any_of HT_.out (by kernel_rfl)) (fun _ _ _ h => h) (Or.inl ⟨by rfl, ?_⟩) ?_ ?_
    rotate_left
    ·intro w'
     go_simp
     with_reducible rfl
    rotate_left
    ·simp only [Act.put, List.setIfInBounds_toArray, List.set_cons_zero, List.set_cons_succ, i64_w, i32_w]
     rfl
    refine pure_ (i := 15) (N := some 43) (v := ?_) (a' := ?_) #[T,T,T,T,T,T,T,T,T,T,T,T,T,T,T,T,F,F,F,F,F,F,F,F,F,F,F,F,F] rfl rfl (any_of HT_.out (by kernel_rfl)) (fun _ _ _ h => h) (Or.inl ⟨by rfl, ?_⟩) ?_ ?_
    rotate_left
    ·intro w'
     go_simp
     with_reducible rfl
    rotate_left
    ·simp only [Act.put, List.setIfInBounds_toArray, List.set_cons_zero, List.set_cons_succ, i64_w, i32_w]
     rfl
    refine pure_ (i := 17) (N := some 45) (v := ?_) (a' := ?_) #[T,T,T,T,T,T,T,T,T,T,T,T,T,T,T,T,F,T,F,F,F,F,F,F,F,F,F,F,F] rfl rfl (any_of HT_.out (by kernel_rfl)) (fun _ _ _ h => h) (Or.inl ⟨by rfl, ?_⟩) ?_ ?_
    rotate_left
    ·intro w'
     go_simp
     with_reducible rfl
    rotate_left
    ·simp only [Act.put, List.setIfInBounds_toArray, List.set_cons_zero, List.set_cons_succ, i64_w, i32_w]
     rfl
    refine pure_ (i := 18) (N := some 46) (v := ?_) (a' := ?_) #[T,T,T,T,T,T,T,T,T,T,T,T,T,T,T,T,F,T,T,F,F,F,F,F,F,F,F,F,F] rfl rfl (any_of HT_.out (by kernel_rfl)) (fun _ _ _ h => h) (Or.inl ⟨by rfl, ?_⟩) ?_ ?_
    rotate_left
    ·intro w'
     go_simp
     with_reducible rfl
    rotate_left
    ·simp only [Act.put, List.setIfInBounds_toArray, List.set_cons_zero, List.set_cons_succ, i64_w, i32_w]
     rfl
    refine pure_ (i := 19) (N := some 47) (v := ?_) (a' := ?_) #[T,T,T,T,T,T,T,T,T,T,T,T,T,T,T,T,F,T,T,T,F,F,F,F,F,F,F,F,F] rfl rfl (any_of HT_.out (by kernel_rfl)) (fun _ _ _ h => h) (Or.inl ⟨by rfl, ?_⟩) ?_ ?_
    rotate_left
    ·intro w'
     go_simp
     with_reducible rfl
    rotate_left
    ·simp only [Act.put, List.setIfInBounds_toArray, List.set_cons_zero, List.set_cons_succ, i64_w, i32_w]
     rfl
    refine pure_ (i := 20) (N := some 48) (v := ?_) (a' := ?_) #[T,T,T,T,T,T,T,T,T,T,T,T,T,T,T,T,F,T,T,T,T,F,F,F,F,F,F,F,F] rfl rfl (any_of HT_.out (by kernel_rfl)) (fun _ _ _ h => h) (Or.inl ⟨by rfl, ?_⟩) ?_ ?_
    rotate_left
    ·intro w'
     go_simp
     with_reducible rfl
    rotate_left
    ·simp only [Act.put, List.setIfInBounds_toArray, List.set_cons_zero, List.set_cons_succ, i64_w, i32_w]
     rfl
    refine pure_ (i := 21) (N := some 49) (v := ?_) (a' := ?_) #[T,T,T,T,T,T,T,T,T,T,T,T,T,T,T,T,F,T,T,T,T,T,F,F,F,F,F,F,F] rfl rfl (any_of HT_.out (by kernel_rfl)) (fun _ _ _ h => h) (Or.inl ⟨by rfl, ?_⟩) ?_ ?_
    rotate_left
    ·intro w'
     go_simp
     with_reducible rfl
    rotate_left
    ·simp only [Act.put, List.setIfInBounds_toArray, List.set_cons_zero, List.set_cons_succ, i64_w, i32_w]
     rfl
    refine take_ (i := 16) (N := some 44) (v := ?_) (a' := ?_) #[T,T,T,T,T,T,T,T,T,T,T,T,T,T,T,T,T,T,T,T,T,T,F,F,F,F,F,F,F] rfl rfl (take_ofW HT_.out HW_.out (by kernel_rfl)) (fun _ _ _ h => h) (Or.inl ⟨by rfl, ?_⟩) hHeld ?_ ?_
    rotate_left
    ·rintro w' ⟨s0, s1, s2, s3, s4, s5, s6, s7, s8, s9, s10, s11, s12, s13, s14, s15⟩
     go_simp
     with_reducible rfl
    rotate_left
    ·simp only [Act.put, List.setIfInBounds_toArray, List.set_cons_zero, List.set_cons_succ, i64_w, i32_w]
     rfl
    refine pure_ (i := 22) (N := some 50) (v := ?_) (a' := ?_) #[T,T,T,T,T,T,T,T,T,T,T,T,T,T,T,T,T,T,T,T,T,T,T,F,F,F,F,F,F] rfl rfl (any_of HT_.out (by kernel_rfl)) (fun _ _ _ h => h) (Or.inl ⟨by rfl, ?_⟩) ?_ ?_
    rotate_left
    ·intro w'
     go_simp
     with_reducible rfl
    rotate_left
    ·simp only [Act.put, List.setIfInBounds_toArray, List.set_cons_zero, List.set_cons_succ, i64_w, i32_w]
     rfl
    refine pure_ (i := 23) (N := some 51) (v := ?_) (a' := ?_) #[T,T,T,T,T,T,T,T,T,T,T,T,T,T,T,T,T,T,T,T,T,T,T,T,F,F,F,F,F] rfl rfl (any_of HT_.out (by kernel_rfl)) (fun _ _ _ h => h) (Or.inl ⟨by rfl, ?_⟩) ?_ ?_
    rotate_left
    ·intro w'
     go_simp
     with_reducible rfl
    rotate_left
    ·simp only [Act.put, List.setIfInBounds_toArray, List.set_cons_zero, List.set_cons_succ, i64_w, i32_w]
     rfl
    refine pure_ (i := 24) (N := some 52) (v := ?_) (a' := ?_) #[T,T,T,T,T,T,T,T,T,T,T,T,T,T,T,T,T,T,T,T,T,T,T,T,T,F,F,F,F] rfl rfl (any_of HT_.out (by kernel_rfl)) (fun _ _ _ h => h) (Or.inl ⟨by rfl, ?_⟩) ?_ ?_
    rotate_left
    ·intro w'
     go_simp
     with_reducible rfl
    rotate_left
    ·simp only [Act.put, List.setIfInBounds_toArray, List.set_cons_zero, List.set_cons_succ, i64_w, i32_w]
     rfl
    refine take_ (i := 25) (N := some 53) (v := ?_) (a' := ?_) #[T,T,T,T,T,T,T,T,T,T,T,T,T,T,T,T,T,T,T,T,T,T,T,T,T,T,F,F,F] rfl rfl (take_ofW HT_.out HW_.out (by kernel_rfl)) (fun _ _ _ h => h) (Or.inl ⟨by rfl, ?_⟩) hHeld ?_ ?_
    rotate_left
    ·rintro w' ⟨s0, s1, s2, s3, s4, s5, s6, s7, s8, s9, s10, s11, s12, s13, s14, s15⟩
     go_simp
     with_reducible rfl
    rotate_left
    ·simp only [Act.put, List.setIfInBounds_toArray, List.set_cons_zero, List.set_cons_succ, i64_w, i32_w]
     rfl
    refine one_ (i := 26) (N := some 54) #[T,T,T,T,T,T,T,T,T,T,T,T,T,T,T,T,T,T,T,T,T,T,T,T,T,T,T,F,F] rfl rfl (one_of HT_.out (by kernel_rfl)) (by decide) (fun K hK => ?_)
    refine goes_ Tryd.func16 (by kernel_rfl) rfl #[.agg #[.int .i64 t367, .int .i64 t368, .int .u8 t369, .int .i64 t370, .int .i64 t371, .int .i64 t372, .int .i64 t373, .bool t374]] (by rfl) rfl rfl (by (try simp only [List.map_toArray, List.map_cons, List.map_nil]); first | done | rfl | (simp only [List.length_drop, List.length_take]; rfl)) ?_
    with_reducible refine (cycle_Ended.calls t367 t368 t369 t370 t371 t372 t373 t374 t385 _ A13.out).mono ?_
    rintro e w25 ⟨rfl, hb⟩
    refine ⟨_, rfl, ?_⟩
    have n0_ := Aside0.mk (blk_below (g := gb366) (o := .cells #[.int .i64 t358, .int .i64 t359, .int .u8 t360, .int .i64 t361, .int .i64 t362, .int .i64 t363, .int .i64 t364, .bool t365] 25 (0, 0)) (by (with_reducible repeat (first | refine kN ?_ _ | refine kD ?_ | refine kA ?_ _)); exact BK366.out) hb)
    have n1_ := Aside0.mk (blk_below (g := gb375) (o := .cells #[.int .i64 t367, .int .i64 t368, .int .u8 t369, .int .i64 t370, .int .i64 t371, .int .i64 t372, .int .i64 t373, .bool t374] 25 (0, 0)) (by (with_reducible repeat (first | refine kN ?_ _ | refine kD ?_ | refine kA ?_ _)); exact BK375.out) hb)
    have n2_ := Aside0.mk (below_step (by repeat (first | (with_reducible first | exact HB.out | apply kL | apply kM | apply kE | refine kS ?_ GE366.out | refine kS ?_ GE375.out) | exact HB.out)) hb)
    clear BK366
    clear BK375
    clear HB
    have BK366 := n0_
    have BK375 := n1_
    have HB := n2_
    clear n0_ n1_ n2_
    (try clear hb)
    (try clear hb2)
    (try clear hk)
    (try clear hi)
    refine hK.out _ _ ⟨(kC BK366.out 0).trans rfl, (kC BK366.out 1).trans rfl, (kC BK366.out 2).trans rfl, (kC BK366.out 3).trans rfl, (kC BK366.out 4).trans rfl, (kC BK366.out 5).trans rfl, (kC BK366.out 6).trans rfl, (kC BK366.out 7).trans rfl, (kC BK375.out 0).trans rfl, (kC BK375.out 1).trans rfl, (kC BK375.out 2).trans rfl, (kC BK375.out 3).trans rfl, (kC BK375.out 4).trans rfl, (kC BK375.out 5).trans rfl, (kC BK375.out 6).trans rfl, (kC BK375.out 7).trans rfl⟩ (fun hHeld => ?_)
    clear hK K
    refine norm_ (a' := ?_) ?_ ?_
    rotate_left
    ·show Act.put _ (some 54) _ = _
     simp only [Act.put, List.setIfInBounds_toArray, List.set_cons_zero, List.set_cons_succ, i64_w, i32_w]
     rfl
    refine pure_ (i := 27) (N := some 55) (v := ?_) (a' := ?_) #[T,T,T,T,T,T,T,T,T,T,T,T,T,T,T,T,T,T,T,T,T,T,T,T,T,T,T,T,F] rfl rfl (any_of HT_.out (by kernel_rfl)) (fun _ _ _ h => h) (Or.inl ⟨by rfl, ?_⟩) ?_ ?_
    rotate_left
    ·intro w'
     go_simp
     with_reducible rfl
    rotate_left
    ·simp only [Act.put, List.setIfInBounds_toArray, List.set_cons_zero, List.set_cons_succ, i64_w, i32_w]
     rfl
    refine pure_ (i := 28) (N := some 10) (v := ?_) (a' := ?_) #[T,T,T,T,T,T,T,T,T,T,T,T,T,T,T,T,T,T,T,T,T,T,T,T,T,T,T,T,T] rfl rfl (any_of HT_.out (by kernel_rfl)) (fun _ _ _ h => h) (Or.inl ⟨by rfl, ?_⟩) ?_ ?_
    rotate_left
    ·intro w'
     go_simp
     with_reducible rfl
    rotate_left
    ·simp only [Act.put, List.setIfInBounds_toArray, List.set_cons_zero, List.set_cons_succ, i64_w, i32_w]
     rfl
    refine done_ (done_of HT_.out (by kernel_rfl)) ?_
    try go_wp2
    go_ret
    exact ⟨by first | rfl | (simp [errW_none, errW_some] <;> rfl) | (simp [*, errW_none, errW_some] <;> rfl), by repeat (first | (with_reducible first | exact HB.out | apply kL | apply kM | apply kE | refine kS ?_ GE366.out | refine kS ?_ GE375.out) | exact HB.out)⟩
   ·rw [if_neg c12] at H
    have c12b0 : (t367 == (wrap64 (a0)) && (t368 == (wrap64 (a1)) && (t369 == 10 && (t370 == 0 && (t371 == 0 && (t372 == 0 && (t373 == 0 && (!t374)))))))) = false := by simpa using c12
    (try (have c12b1 : decide (t367 = (wrap64 (a0)) && (t368 == (wrap64 (a1)) && (t369 == 10 && (t370 == 0 && (t371 == 0 && (t372 == 0 && (t373 == 0 && (!t374)))))))) = false := by simpa using c12))
    (try (have c12b2 : (t367 == (wrap64 (a0)) && (t368 == (wrap64 (a1)) && (t369 == 10 && (t370 == 0 && (t371 == 0 && (t372 == 0 && (t373 == 0 && (!t374)))))))) = false := by simpa using c12))
    (try (have c12b3 : ¬ (t367 = (wrap64 (a0)) && (t368 == (wrap64 (a1)) && (t369 == 10 && (t370 == 0 && (t371 == 0 && (t372 == 0 && (t373 == 0 && (!t374)))))))) := by simpa using c12))
    clear c12
    exact absurd H (by simp)
  ·rw [if_neg c11] at H
   have c11b0 : (t358 == t377 && (t359 == t378 && (t360 == t379 && (t361 == t380 && (t362 == t381 && (t363 == t382 && (t364 == t383 && (t365 == t384)))))))) = false := by simpa using c11
   (try (have c11b1 : decide (t358 = t377 && (t359 == t378 && (t360 == t379 && (t361 == t380 && (t362 == t381 && (t363 == t382 && (t364 == t383 && (t365 == t384)))))))) = false := by simpa using c11))
   (try (have c11b2 : (t358 == t377 && (t359 == t378 && (t360 == t379 && (t361 == t380 && (t362 == t381 && (t363 == t382 && (t364 == t383 && (t365 == t384)))))))) = false := by simpa using c11))
   (try (have c11b3 : ¬ (t358 = t377 && (t359 == t378 && (t360 == t379 && (t361 == t380 && (t362 == t381 && (t363 == t382 && (t364 == t383 && (t365 == t384)))))))) := by simpa using c11))
   clear c11
   exact absurd H (by simp)
 ·replace c9 := Bool.eq_false_iff.mpr c9
  subst c9
  have H1 : (some false) = some true := by rw [if_neg (show ¬ (false = true) by decide)] at H; try exact H
  clear H
  have H := H1
  clear H1
  exact absurd H (by simp)

/-- THE ONE PURE STATEMENT of paybooklaw12_CycleBegins: yours. -/
def paybooklaw12_CycleBegins.Pure : Prop := ∀ (a0 : Int) (a1 : Int) (a2 : Int) (a3 : Int) (a4 : Bool), (Lit.int .u16 a0).wf = true → (Lit.int .u16 a1).wf = true → (Lit.int .u32 a2).wf = true → (Lit.int .i32 a3).wf = true → ∃ k, paybooklaw12_CycleBegins.f k a0 a1 a2 a3 a4 = some true
theorem paybooklaw12_CycleBegins.walk (P : paybooklaw12_CycleBegins.Pure) (a0 : Int) (a1 : Int) (a2 : Int) (a3 : Int) (a4 : Bool) (w : World) (w0 : (Lit.int .u16 a0).wf = true) (w1 : (Lit.int .u16 a1).wf = true) (w2 : (Lit.int .u32 a2).wf = true) (w3 : (Lit.int .i32 a3).wf = true) (hrG0 : Kd.C (Kd.int .i64) w (some ⟨0, 0, none⟩) 3 gl0) :
  Calls Tryd.prog 6 #[.int .u16 a0, .int .u16 a1, .int .u32 a2, .int .i32 a3, .bool a4] w fun e w' => e = .returned (.bool true) ∧ Below w.heap.size w w' := by
 obtain ⟨k, h⟩ := P a0 a1 a2 a3 a4 w0 w1 w2 w3
 refine (paybooklaw12_CycleBegins.calls k a0 a1 a2 a3 a4 w hrG0 h).mono ?_
 rintro e w' ⟨rfl, hd⟩
 exact ⟨rfl, hd⟩

end Go.Proofs.YtlfaaogifplgeaaDoor.PA
