-- printed by this workplace: wip/patchprint.py over the kit's print
import Derived.Test.YtlfaaogifplgeaaDoorPAx0
import Derived.Test.YtlfaaogifplgeaaDoorPAx1
import Derived.Test.YtlfaaogifplgeaaDoorPAx4
import Derived.Test.YtlfaaogifplgeaaDoorPAx9
import Derived.Test.YtlfaaogifplgeaaDoorPAx10
import Derived.Test.YtlfaaogifplgeaaDoorPAx11
import Derived.Test.YtlfaaogifplgeaaDoorPAx14
import Derived.Test.YtlfaaogifplgeaaDoorPAx20
namespace Go.Proofs.YtlfaaogifplgeaaDoor.PA
open Go.RowKit Go.Proofs.YtlfaaogifplgeaaDoorW.PrintWords Go.Proofs.YtlfaaogifplgeaaDoorW.PrintLast Go.Proofs.YtlfaaogifplgeaaDoorW.PrintMore
attribute [local go_sem] max2_int min2_int max_two min_two max_three min_three max_four min_four   -- for this text's walks alone
set_option linter.unusedVariables false
set_option linter.unusedSimpArgs false

attribute [local go_sem high] eqA25
/-! ### paybooklaw12_CycleLadder: function 9 -/
mutual
def paybooklaw12_CycleLadder.l0 : Nat → Int → Int → Int → Int → Int → Int → Int → Int → Int → Int → Bool → Option (Bool)
 | 0, _, _, _, _, _, _, _, _, _, _, _ => none
 | k + 1, x0, x8, x9, x408000, x408001, x408002, x408003, x408004, x408005, x408006, x408007 => if x9 < 4 then ((cycle_Asks.f 0 x408000 x408001 x408002 x408003 x408004 x408005 x408006 x408007).bind fun bt409 => (if bt409.2.2.2.2.2.2 = true then (if bt409.1 = 1 then (paybooklaw12_CycleLadder.j1 k x0 x8 x9 (bt409.2.2.2.1 != (wrap64 (x9 + 1))) x408000 x408001 x408002 x408003 x408004 x408005 x408006 x408007 bt409.1 bt409.2.1 bt409.2.2.1 bt409.2.2.2.1 bt409.2.2.2.2.1 bt409.2.2.2.2.2.1) else (paybooklaw12_CycleLadder.j1 k x0 x8 x9 true x408000 x408001 x408002 x408003 x408004 x408005 x408006 x408007 bt409.1 bt409.2.1 bt409.2.2.1 bt409.2.2.2.1 bt409.2.2.2.2.1 bt409.2.2.2.2.2.1)) else (paybooklaw12_CycleLadder.j1 k x0 x8 x9 true x408000 x408001 x408002 x408003 x408004 x408005 x408006 x408007 bt409.1 bt409.2.1 bt409.2.2.1 bt409.2.2.2.1 bt409.2.2.2.2.1 bt409.2.2.2.2.2.1))) else ((paybooklaw12_awake.f k).bind fun t408 => (if t408 = true then (if x408002 = 8 then (some (x8 == (wrap64 ((wrap64 (x0)) + 11)))) else (some false)) else (some false)))
def paybooklaw12_CycleLadder.j1 : Nat → Int → Int → Int → Bool → Int → Int → Int → Int → Int → Int → Int → Bool → Int → Int → Int → Int → Int → Int → Option (Bool)
 | 0, _, _, _, _, _, _, _, _, _, _, _, _, _, _, _, _, _, _ => none
 | k + 1, x0, x8, x9, x46, x408000, x408001, x408002, x408003, x408004, x408005, x408006, x408007, x417000, x417001, x417002, x417003, x417004, x417005 => if x46 = true then (some false) else ((cycle_Hear.f k 0 x408000 x408001 x408002 x408003 x408004 x408005 x408006 x408007 x417000 x417001 x417002 x417003 x417004 2 x8 false).bind fun bt417 => (if x9 = 3 then ((paybooklaw12_awake.f k).bind fun t426 => (if t426 = true then (if bt417.2.2.1 = 8 then (some (x8 == (wrap64 ((wrap64 (x0)) + 11)))) else (some false)) else (some false))) else ((paybookref12_Steps.f).bind fun t427 => (if 0 ≤ x9 then (if x9 < (t427.length : Int) then (if bt417.2.2.1 = 2 then (if bt417.2.2.2.2.2.2.1 = (wrap64 (x8 + (rd t427 x9))) then ((cycle_Wake.f bt417.1 bt417.2.1 bt417.2.2.1 bt417.2.2.2.1 bt417.2.2.2.2.1 bt417.2.2.2.2.2.1 bt417.2.2.2.2.2.2.1 bt417.2.2.2.2.2.2.2.1 (wrap64 ((wrap64 (x8 + (rd t427 x9))) - 1))).bind fun bt431 => (if (!(bt431.1 == bt417.1) || (!(bt431.2.1 == bt417.2.1) || (!(bt431.2.2.1 == bt417.2.2.1) || (!(bt431.2.2.2.1 == bt417.2.2.2.1) || (!(bt431.2.2.2.2.1 == bt417.2.2.2.2.1) || (!(bt431.2.2.2.2.2.1 == bt417.2.2.2.2.2.1) || (!(bt431.2.2.2.2.2.2.1 == bt417.2.2.2.2.2.2.1) || (!(bt431.2.2.2.2.2.2.2 == bt417.2.2.2.2.2.2.2.1))))))))) = true then (some false) else ((cycle_Wake.f bt417.1 bt417.2.1 bt417.2.2.1 bt417.2.2.2.1 bt417.2.2.2.2.1 bt417.2.2.2.2.2.1 bt417.2.2.2.2.2.2.1 bt417.2.2.2.2.2.2.2.1 (wrap64 (x8 + (rd t427 x9)))).bind fun bt439 => (paybooklaw12_CycleLadder.l0 k x0 (wrap64 (x8 + (rd t427 x9))) (wrap64 (x9 + 1)) bt439.1 bt439.2.1 bt439.2.2.1 bt439.2.2.2.1 bt439.2.2.2.2.1 bt439.2.2.2.2.2.1 bt439.2.2.2.2.2.2.1 bt439.2.2.2.2.2.2.2)))) else (some false)) else (some false)) else (none)) else (none)))))
end
def paybooklaw12_CycleLadder.f (k : Nat) (a0 : Int) (a1 : Int) (a2 : Bool) : Option (Bool) := if a1 = 0 then ((paybooklaw12_awake.f k).bind fun t398 => (some t398)) else ((cycle_Begin.f 3 (wrap64 (a0)) (wrap64 (a1)) 0 a2).bind fun bt399 => (paybooklaw12_CycleLadder.l0 k a0 (wrap64 (a0)) 0 bt399.1 bt399.2.1 bt399.2.2.1 bt399.2.2.2.1 bt399.2.2.2.2.1 bt399.2.2.2.2.2.1 bt399.2.2.2.2.2.2.1 bt399.2.2.2.2.2.2.2))
theorem paybooklaw12_CycleLadder.mono_l : ∀ k, (∀ y0 y1 y2 y3 y4 y5 y6 y7 y8 y9 y10, LeO (paybooklaw12_CycleLadder.l0 k y0 y1 y2 y3 y4 y5 y6 y7 y8 y9 y10) (paybooklaw12_CycleLadder.l0 (k + 1) y0 y1 y2 y3 y4 y5 y6 y7 y8 y9 y10)) ∧ (∀ y0 y1 y2 y3 y4 y5 y6 y7 y8 y9 y10 y11 y12 y13 y14 y15 y16 y17, LeO (paybooklaw12_CycleLadder.j1 k y0 y1 y2 y3 y4 y5 y6 y7 y8 y9 y10 y11 y12 y13 y14 y15 y16 y17) (paybooklaw12_CycleLadder.j1 (k + 1) y0 y1 y2 y3 y4 y5 y6 y7 y8 y9 y10 y11 y12 y13 y14 y15 y16 y17))
 | 0 => ⟨fun _ _ _ _ _ _ _ _ _ _ _ r h => by simp [paybooklaw12_CycleLadder.l0] at h, fun _ _ _ _ _ _ _ _ _ _ _ _ _ _ _ _ _ _ r h => by simp [paybooklaw12_CycleLadder.j1] at h⟩
 | k + 1 => by
  obtain ⟨ih0, ih1⟩ := paybooklaw12_CycleLadder.mono_l k
  refine ⟨?_, ?_⟩
  ·intro y0 y1 y2 y3 y4 y5 y6 y7 y8 y9 y10
   unfold paybooklaw12_CycleLadder.l0
   repeat' first
   | (with_reducible exact ih0 _ _ _ _ _ _ _ _ _ _ _)
   | (with_reducible exact ih1 _ _ _ _ _ _ _ _ _ _ _ _ _ _ _ _ _ _)
   | (with_reducible exact cycle_Hear.mono _ _ _ _ _ _ _ _ _ _ _ _ _ _ _ _ _ _)
   | (with_reducible exact paybooklaw12_awake.mono _)
   | (with_reducible exact LeO.refl _)
   | (with_reducible exact LeO.none _)
   | (with_reducible refine LeO.ite ?_ ?_)
   | (with_reducible refine LeO.bind ?_ (fun _ => ?_))
   | exact ih0 _ _ _ _ _ _ _ _ _ _ _
   | exact ih1 _ _ _ _ _ _ _ _ _ _ _ _ _ _ _ _ _ _
   | exact cycle_Hear.mono _ _ _ _ _ _ _ _ _ _ _ _ _ _ _ _ _ _
   | exact paybooklaw12_awake.mono _
   | exact LeO.none _
   | refine LeO.ite ?_ ?_
   | refine LeO.bind ?_ (fun _ => ?_)
  ·intro y0 y1 y2 y3 y4 y5 y6 y7 y8 y9 y10 y11 y12 y13 y14 y15 y16 y17
   unfold paybooklaw12_CycleLadder.j1
   repeat' first
   | (with_reducible exact ih0 _ _ _ _ _ _ _ _ _ _ _)
   | (with_reducible exact ih1 _ _ _ _ _ _ _ _ _ _ _ _ _ _ _ _ _ _)
   | (with_reducible exact cycle_Hear.mono _ _ _ _ _ _ _ _ _ _ _ _ _ _ _ _ _ _)
   | (with_reducible exact paybooklaw12_awake.mono _)
   | (with_reducible exact LeO.refl _)
   | (with_reducible exact LeO.none _)
   | (with_reducible refine LeO.ite ?_ ?_)
   | (with_reducible refine LeO.bind ?_ (fun _ => ?_))
   | exact ih0 _ _ _ _ _ _ _ _ _ _ _
   | exact ih1 _ _ _ _ _ _ _ _ _ _ _ _ _ _ _ _ _ _
   | exact cycle_Hear.mono _ _ _ _ _ _ _ _ _ _ _ _ _ _ _ _ _ _
   | exact paybooklaw12_awake.mono _
   | exact LeO.none _
   | refine LeO.ite ?_ ?_
   | refine LeO.bind ?_ (fun _ => ?_)
theorem paybooklaw12_CycleLadder.mono : ∀ a0 a1 a2 k, LeO (paybooklaw12_CycleLadder.f k a0 a1 a2) (paybooklaw12_CycleLadder.f (k + 1) a0 a1 a2) := by
 intro a0 a1 a2 k
 obtain ⟨ih0, ih1⟩ := paybooklaw12_CycleLadder.mono_l k
 unfold paybooklaw12_CycleLadder.f
 repeat' first
   | (with_reducible exact ih0 _ _ _ _ _ _ _ _ _ _ _)
   | (with_reducible exact ih1 _ _ _ _ _ _ _ _ _ _ _ _ _ _ _ _ _ _)
   | (with_reducible exact cycle_Hear.mono _ _ _ _ _ _ _ _ _ _ _ _ _ _ _ _ _ _)
   | (with_reducible exact paybooklaw12_awake.mono _)
   | (with_reducible exact LeO.refl _)
   | (with_reducible exact LeO.none _)
   | (with_reducible refine LeO.ite ?_ ?_)
   | (with_reducible refine LeO.bind ?_ (fun _ => ?_))
   | exact ih0 _ _ _ _ _ _ _ _ _ _ _
   | exact ih1 _ _ _ _ _ _ _ _ _ _ _ _ _ _ _ _ _ _
   | exact cycle_Hear.mono _ _ _ _ _ _ _ _ _ _ _ _ _ _ _ _ _ _
   | exact paybooklaw12_awake.mono _
   | exact LeO.none _
   | refine LeO.ite ?_ ?_
   | refine LeO.bind ?_ (fun _ => ?_)
def paybooklaw12_CycleLadder.T15 : Bool × List (List Nat × List Nat) := (true, [([], []), ([0], [0]), ([1], [1]), ([2], [2]), ([3], [3]), ([4, 3], [3, 4]), ([3], [3]), ([5, 6, 3], [3, 5, 6]), ([3, 7], [3, 7]), ([8, 3], [8]), ([9], [9]), ([9], [9]), ([11, 9], [9, 11]), ([10, 12, 9, 9], [9, 10, 12]), ([9], [9]), ([13, 14, 9], [9, 13, 14]), ([9, 15], [9, 15])])
def paybooklaw12_CycleLadder.B15 : List Nat := [0, 1, 3, 7, 15, 31, 15, 127, 255, 511, 1023, 1023, 3071, 8191, 1023, 32767, 65535]
theorem paybooklaw12_CycleLadder.tab15 : rtab .any (opsOf Tryd.f9 15) = paybooklaw12_CycleLadder.T15 := by kernel_rfl
theorem paybooklaw12_CycleLadder.bits15 : waitsOk paybooklaw12_CycleLadder.T15.2 paybooklaw12_CycleLadder.B15 = true := by kernel_rfl
set_option maxHeartbeats 40000000 in
set_option maxRecDepth 100000 in
theorem paybooklaw12_CycleLadder.calls (k : Nat) (a0 : Int) (a1 : Int) (a2 : Bool) (w : World) (hrG0 : Kd.C (Kd.int .i64) w (some ⟨0, 0, none⟩) 3 gl0) (h : paybooklaw12_CycleLadder.f k a0 a1 a2 = some true) :
  Calls Tryd.prog 9 #[.int .u16 a0, .int .u16 a1, .bool a2] w fun e w' => e = .returned (.bool true) ∧ Below w.heap.size w w' := by
 have hu25 := Tryd.underlying25
 have hu28 := Tryd.underlying28
 have HRG0 := Aside0.mk hrG0
 clear hrG0
 have HB := Aside0.mk (Below.refl w.heap.size w)
 have H : (if a1 = 0 then ((paybooklaw12_awake.f k).bind fun t398 => (some t398)) else ((cycle_Begin.f 3 (wrap64 (a0)) (wrap64 (a1)) 0 a2).bind fun bt399 => (paybooklaw12_CycleLadder.l0 k a0 (wrap64 (a0)) 0 bt399.1 bt399.2.1 bt399.2.2.1 bt399.2.2.2.1 bt399.2.2.2.2.1 bt399.2.2.2.2.2.1 bt399.2.2.2.2.2.2.1 bt399.2.2.2.2.2.2.2))) = some true := h
 clear h
 by_cases c4 : a1 = 0
 ·rw [if_pos c4] at H
  have c4b0 : (a1 == 0) = true := beq_iff_eq.mpr c4
  have c4b1 : (a1 != 0) = false := bne_eq_false_iff_eq.mpr c4
  clear c4
  replace H := Option.bind_eq_some_iff.mp H
  obtain ⟨t398, A50, H⟩ := H
  replace H : (some t398) = some true := H
  have A5 := Aside0.mk A50
  clear A50
  have HT_ := Option.some.inj H
  clear H
  (try (have HT_z_ := HT_; simp only [beq_true, beq_false, true_beq, false_beq, Bool.not_eq_true', Bool.not_eq_false', Bool.not_true, Bool.not_false] at HT_z_))
  go_enter Tryd.func9, Tryd.ntmps9
  go_wp2_with (first | (go_at_call 15; (with_reducible refine (paybooklaw12_awake.calls k  t398 _ ?side1 A5.out).mono ?_); (case side1 => repeat (first | exact HRG0.out | exact (Kd.C_below HRG0.out HB.out) | (with_reducible refine Kd.C_alloc ?_ _) | (with_reducible refine Kd.C_drewN ?_ _) | (with_reducible refine Kd.C_drew ?_))); rintro e w6 ⟨rfl, hb⟩; have n0_ := Aside0.mk (below_step (by repeat (first | (with_reducible first | exact HB.out | apply kL | apply kM | apply kE) | exact HB.out)) hb); clear HB; have HB := n0_; clear n0_; (try clear hb); (try clear hb2); (try clear hk); (try clear hi)) | ((with_reducible refine gate_callee (f := 15) rfl ?_); refine goesL_ (some 15) rfl rfl Tryd.func15 (by kernel_rfl) rfl #[] rfl (by (try simp only [List.map_toArray, List.map_cons, List.map_nil]); first | done | rfl | (simp only [List.length_drop, List.length_take]; rfl)) ?_; (with_reducible refine (paybooklaw12_awake.calls k  t398 _ ?side1 A5.out).mono ?_); (case side1 => repeat (first | exact HRG0.out | exact (Kd.C_below HRG0.out HB.out) | (with_reducible refine Kd.C_alloc ?_ _) | (with_reducible refine Kd.C_drewN ?_ _) | (with_reducible refine Kd.C_drew ?_))); rintro e w6 ⟨rfl, hb⟩; refine ⟨_, rfl, ?_⟩; have n0_ := Aside0.mk (below_step (by repeat (first | (with_reducible first | exact HB.out | apply kL | apply kM | apply kE) | exact HB.out)) hb); clear HB; have HB := n0_; clear n0_; (try clear hb); (try clear hb2); (try clear hk); (try clear hi)))
  go_ret
  exact ⟨by first | rfl | (simp [errW_none, errW_some] <;> rfl) | (simp [*, errW_none, errW_some] <;> rfl), by repeat (first | (with_reducible first | exact HB.out | apply kL | apply kM | apply kE) | exact HB.out)⟩
 ·rw [if_neg c4] at H
  have c4b0 : (a1 == 0) = false := beq_eq_false_iff_ne.mpr c4
  have c4b1 : (a1 != 0) = true := bne_iff_ne.mpr c4
  replace H := Option.bind_eq_some_iff.mp H
  obtain ⟨⟨t399, t400, t401, t402, t403, t404, t405, t406⟩, A70, H⟩ := H
  replace H : (paybooklaw12_CycleLadder.l0 k a0 (wrap64 (a0)) 0 t399 t400 t401 t402 t403 t404 t405 t406) = some true := H
  have A7 := Aside0.mk A70
  clear A70
  have H' := Aside0.mk H
  clear H
  go_enter Tryd.func9, Tryd.ntmps9
  go_wp2_with (first | ((with_reducible refine gate_callee (f := 20) rfl ?_); refine goesL_ (some 21) rfl rfl Tryd.func20 (by kernel_rfl) rfl #[.int .i64 3, .int .i64 (wrap64 (a0)), .int .i64 (wrap64 (a1)), .int .i64 0, .bool a2] rfl (by (try simp only [List.map_toArray, List.map_cons, List.map_nil]); first | done | rfl | (simp only [List.length_drop, List.length_take]; rfl)) ?_; (with_reducible refine (cycle_Begin.calls 3 (wrap64 (a0)) (wrap64 (a1)) 0 a2 t399 t400 t401 t402 t403 t404 t405 t406 _ A7.out).mono ?_); rintro e w8 ⟨rfl, hb⟩; refine ⟨_, rfl, ?_⟩; have n0_ := Aside0.mk (below_step (by repeat (first | (with_reducible first | exact HB.out | apply kL | apply kM | apply kE) | exact HB.out)) hb); clear HB; have HB := n0_; clear n0_; (try clear hb); (try clear hb2); (try clear hk); (try clear hi)) | ((with_reducible refine gate_dst (N := 7) rfl ?_); refine box_event ?hg (N := 7) ?hd (cs := #[.int .i64 0, .int .i64 0, .int .u8 0, .int .i64 0, .int .i64 0, .int .i64 0, .int .i64 0, .bool false]) (t := 25) ?hr ?_; (case hd => rfl); (case hg => rfl); (case hr => first | (go_simp; done) | (go_simp; rfl)); intro gb407 hg w9 hbox hb; have n0_ := Aside0.mk (below_step (by repeat (first | (with_reducible first | exact HB.out | apply kL | apply kM | apply kE) | exact HB.out)) hb); have n1_ := Aside0.mk (hbox); have n2_ := Aside0.mk ((by rw [hg]; exact (below_size (by repeat (first | (with_reducible first | exact HB.out | apply kL | apply kM | apply kE) | exact HB.out))) : w.heap.size ≤ gb407)); have n3_ := Aside0.mk ((by rw [hg]; exact (below_size (by repeat (first | (with_reducible first | exact HB.out | apply kL | apply kM | apply kE) | exact HB.out))) : w.heap.size ≤ gb407)); clear HB; have HB := n0_; have BK407 := n1_; have GW407 := n2_; have GE407 := n3_; clear n0_ n1_ n2_ n3_; clear hb hbox hg; have hcz10_0 : w9.cell? ⟨gb407, 0, none⟩ = some (.int .i64 0) := (kC BK407.out 0).trans rfl; have hcz10_1 : w9.cell? ⟨gb407, 1, none⟩ = some (.int .i64 0) := (kC BK407.out 1).trans rfl; have hcz10_2 : w9.cell? ⟨gb407, 2, none⟩ = some (.int .u8 0) := (kC BK407.out 2).trans rfl; have hcz10_3 : w9.cell? ⟨gb407, 3, none⟩ = some (.int .i64 0) := (kC BK407.out 3).trans rfl; have hcz10_4 : w9.cell? ⟨gb407, 4, none⟩ = some (.int .i64 0) := (kC BK407.out 4).trans rfl; have hcz10_5 : w9.cell? ⟨gb407, 5, none⟩ = some (.int .i64 0) := (kC BK407.out 5).trans rfl; have hcz10_6 : w9.cell? ⟨gb407, 6, none⟩ = some (.int .i64 0) := (kC BK407.out 6).trans rfl; have hcz10_7 : w9.cell? ⟨gb407, 7, none⟩ = some (.bool false) := (kC BK407.out 7).trans rfl; have hfz10_0 := kF BK407.out 0; have hfz10_1 := kF BK407.out 1; have hfz10_2 := kF BK407.out 2; have hfz10_3 := kF BK407.out 3; have hfz10_4 := kF BK407.out 4; have hfz10_5 := kF BK407.out 5; have hfz10_6 := kF BK407.out 6; have hfz10_7 := kF BK407.out 7))
  go_loopg [8, 9] k (fun kq v8 v9 w' => ∃ (x8_1 : Int) (x9_1 : Int) (x408000_1 : Int) (x408001_1 : Int) (x408002_1 : Int) (x408003_1 : Int) (x408004_1 : Int) (x408005_1 : Int) (x408006_1 : Int) (x408007_1 : Bool), v8 = .int .i64 x8_1 ∧ v9 = .int .i64 x9_1 ∧ Aside0 (paybooklaw12_CycleLadder.l0 kq a0 x8_1 x9_1 x408000_1 x408001_1 x408002_1 x408003_1 x408004_1 x408005_1 x408006_1 x408007_1 = some true) ∧ Aside0 (kq ≤ k) ∧ Aside0 (w'.heap[gb407]? = some (.cells #[.int .i64 x408000_1, .int .i64 x408001_1, .int .u8 x408002_1, .int .i64 x408003_1, .int .i64 x408004_1, .int .i64 x408005_1, .int .i64 x408006_1, .bool x408007_1] 25 (0, 0))) ∧ Aside0 (Below w.heap.size w w'))
  case atStart => exact ⟨(wrap64 (a0)), (0), (t399), (t400), (t401), (t402), (t403), (t404), (t405), (t406), (by first | rfl | (simp; done) | (simp [*]; done)), (by first | rfl | (simp; done) | (simp [*]; done)), H', ⟨Nat.le_refl _⟩, ⟨by (with_reducible repeat (first | refine kN ?_ _ | refine kD ?_ | refine kA ?_ _)); refine kP (cs := #[.int .i64 t399, .int .i64 t400, .int .u8 t401, .int .i64 t402, .int .i64 t403, .int .i64 t404, .int .i64 t405, .bool false]) ?_ 7 _ rfl; (with_reducible repeat (first | refine kN ?_ _ | refine kD ?_ | refine kA ?_ _)); refine kP (cs := #[.int .i64 t399, .int .i64 t400, .int .u8 t401, .int .i64 t402, .int .i64 t403, .int .i64 t404, .int .i64 0, .bool false]) ?_ 6 _ rfl; (with_reducible repeat (first | refine kN ?_ _ | refine kD ?_ | refine kA ?_ _)); refine kP (cs := #[.int .i64 t399, .int .i64 t400, .int .u8 t401, .int .i64 t402, .int .i64 t403, .int .i64 0, .int .i64 0, .bool false]) ?_ 5 _ rfl; (with_reducible repeat (first | refine kN ?_ _ | refine kD ?_ | refine kA ?_ _)); refine kP (cs := #[.int .i64 t399, .int .i64 t400, .int .u8 t401, .int .i64 t402, .int .i64 0, .int .i64 0, .int .i64 0, .bool false]) ?_ 4 _ rfl; (with_reducible repeat (first | refine kN ?_ _ | refine kD ?_ | refine kA ?_ _)); refine kP (cs := #[.int .i64 t399, .int .i64 t400, .int .u8 t401, .int .i64 0, .int .i64 0, .int .i64 0, .int .i64 0, .bool false]) ?_ 3 _ rfl; (with_reducible repeat (first | refine kN ?_ _ | refine kD ?_ | refine kA ?_ _)); refine kP (cs := #[.int .i64 t399, .int .i64 t400, .int .u8 0, .int .i64 0, .int .i64 0, .int .i64 0, .int .i64 0, .bool false]) ?_ 2 _ rfl; (with_reducible repeat (first | refine kN ?_ _ | refine kD ?_ | refine kA ?_ _)); refine kP (cs := #[.int .i64 t399, .int .i64 0, .int .u8 0, .int .i64 0, .int .i64 0, .int .i64 0, .int .i64 0, .bool false]) ?_ 1 _ rfl; (with_reducible repeat (first | refine kN ?_ _ | refine kD ?_ | refine kA ?_ _)); refine kP (cs := #[.int .i64 0, .int .i64 0, .int .u8 0, .int .i64 0, .int .i64 0, .int .i64 0, .int .i64 0, .bool false]) ?_ 0 _ rfl; (with_reducible repeat (first | refine kN ?_ _ | refine kD ?_ | refine kA ?_ _)); exact BK407.out⟩, ⟨by repeat (first | (with_reducible first | exact HB.out | apply kL | apply kM | apply kE | refine kS ?_ GE407.out) | exact HB.out)⟩⟩
  case round =>
   clear H'
   try clear c1
   try clear c2
   try clear p2
   try clear c4
   try clear c4b0
   try clear c4b1
   try clear p6
   try clear c9
   try clear hcz10_0
   try clear hcz10_1
   try clear hcz10_2
   try clear hcz10_3
   try clear hcz10_4
   try clear hcz10_5
   try clear hcz10_6
   try clear hcz10_7
   try clear hfz10_0
   try clear hfz10_1
   try clear hfz10_2
   try clear hfz10_3
   try clear hfz10_4
   try clear hfz10_5
   try clear hfz10_6
   try clear hfz10_7
   obtain ⟨x8_1, x9_1, x408000_1, x408001_1, x408002_1, x408003_1, x408004_1, x408005_1, x408006_1, x408007_1, rfl, rfl, HA, HK1, BK407, HB⟩ := hrel
   cases gk with
   | zero => exact absurd HA.out (by simp [paybooklaw12_CycleLadder.l0])
   | succ k1 =>
    have H := HA.out
    clear HA
    simp only [paybooklaw12_CycleLadder.l0] at H
    by_cases c11 : x9_1 < 4
    ·rw [if_pos c11] at H
     have c11b0 : decide (x9_1 < 4) = true := decide_eq_true c11
     clear c11
     replace H := Option.bind_eq_some_iff.mp H
     obtain ⟨⟨t409, t410, t411, t412, t413, t414, t415⟩, A120, H⟩ := H
     replace H : (if t415 = true then (if t409 = 1 then (paybooklaw12_CycleLadder.j1 k1 a0 x8_1 x9_1 (t412 != (wrap64 (x9_1 + 1))) x408000_1 x408001_1 x408002_1 x408003_1 x408004_1 x408005_1 x408006_1 x408007_1 t409 t410 t411 t412 t413 t414) else (paybooklaw12_CycleLadder.j1 k1 a0 x8_1 x9_1 true x408000_1 x408001_1 x408002_1 x408003_1 x408004_1 x408005_1 x408006_1 x408007_1 t409 t410 t411 t412 t413 t414)) else (paybooklaw12_CycleLadder.j1 k1 a0 x8_1 x9_1 true x408000_1 x408001_1 x408002_1 x408003_1 x408004_1 x408005_1 x408006_1 x408007_1 t409 t410 t411 t412 t413 t414)) = some true := H
     have A12 := Aside0.mk A120
     clear A120
     have HC13 := Aside0.mk H
     clear H
     have hcz14_0 : wr.cell? ⟨gb407, 0, none⟩ = some (.int .i64 x408000_1) := (kC BK407.out 0).trans rfl
     have hcz14_1 : wr.cell? ⟨gb407, 1, none⟩ = some (.int .i64 x408001_1) := (kC BK407.out 1).trans rfl
     have hcz14_2 : wr.cell? ⟨gb407, 2, none⟩ = some (.int .u8 x408002_1) := (kC BK407.out 2).trans rfl
     have hcz14_3 : wr.cell? ⟨gb407, 3, none⟩ = some (.int .i64 x408003_1) := (kC BK407.out 3).trans rfl
     have hcz14_4 : wr.cell? ⟨gb407, 4, none⟩ = some (.int .i64 x408004_1) := (kC BK407.out 4).trans rfl
     have hcz14_5 : wr.cell? ⟨gb407, 5, none⟩ = some (.int .i64 x408005_1) := (kC BK407.out 5).trans rfl
     have hcz14_6 : wr.cell? ⟨gb407, 6, none⟩ = some (.int .i64 x408006_1) := (kC BK407.out 6).trans rfl
     have hcz14_7 : wr.cell? ⟨gb407, 7, none⟩ = some (.bool x408007_1) := (kC BK407.out 7).trans rfl
     have hfz14_0 := kF BK407.out 0
     have hfz14_1 := kF BK407.out 1
     have hfz14_2 := kF BK407.out 2
     have hfz14_3 := kF BK407.out 3
     have hfz14_4 := kF BK407.out 4
     have hfz14_5 := kF BK407.out 5
     have hfz14_6 := kF BK407.out 6
     have hfz14_7 := kF BK407.out 7
     go_upto_region 9 with (first | ((with_reducible refine gate_callee (f := 13) rfl ?_); refine goesL_ (some 30) rfl rfl Tryd.func13 (by kernel_rfl) rfl #[.int .i64 0, .agg #[.int .i64 x408000_1, .int .i64 x408001_1, .int .u8 x408002_1, .int .i64 x408003_1, .int .i64 x408004_1, .int .i64 x408005_1, .int .i64 x408006_1, .bool x408007_1]] rfl (by (try simp only [List.map_toArray, List.map_cons, List.map_nil]); first | done | rfl | (simp only [List.length_drop, List.length_take]; rfl)) ?_; (with_reducible refine (cycle_Asks.calls 0 x408000_1 x408001_1 x408002_1 x408003_1 x408004_1 x408005_1 x408006_1 x408007_1 t409 t410 t411 t412 t413 t414 t415 _ A12.out).mono ?_); rintro e w15 ⟨rfl, hb⟩; refine ⟨_, rfl, ?_⟩; have n0_ := Aside0.mk (blk_below (g := gb407) (o := .cells #[.int .i64 x408000_1, .int .i64 x408001_1, .int .u8 x408002_1, .int .i64 x408003_1, .int .i64 x408004_1, .int .i64 x408005_1, .int .i64 x408006_1, .bool x408007_1] 25 (0, 0)) (by (with_reducible repeat (first | refine kN ?_ _ | refine kD ?_ | refine kA ?_ _)); exact BK407.out) hb); have n1_ := Aside0.mk (below_step (by repeat (first | (with_reducible first | exact HB.out | apply kL | apply kM | apply kE | refine kS ?_ GE407.out) | exact HB.out)) hb); clear BK407; clear HB; have BK407 := n0_; have HB := n1_; clear n0_ n1_; (try clear hb); (try clear hb2); (try clear hk); (try clear hi)) | ((with_reducible refine gate_dst (N := 10) rfl ?_); refine box_event ?hg (N := 10) ?hd (cs := #[.int .u8 0, .int .i64 0, .int .i64 0, .int .i64 0, .int .i64 0, .int .u8 0]) (t := 28) ?hr ?_; (case hd => rfl); (case hg => rfl); (case hr => first | (go_simp; done) | (go_simp; rfl)); intro gb416 hg w16 hbox hb; have n0_ := Aside0.mk (blk_below (g := gb407) (o := .cells #[.int .i64 x408000_1, .int .i64 x408001_1, .int .u8 x408002_1, .int .i64 x408003_1, .int .i64 x408004_1, .int .i64 x408005_1, .int .i64 x408006_1, .bool x408007_1] 25 (0, 0)) (by (with_reducible repeat (first | refine kN ?_ _ | refine kD ?_ | refine kA ?_ _)); exact BK407.out) hb); have n1_ := Aside0.mk (below_step (by repeat (first | (with_reducible first | exact HB.out | apply kL | apply kM | apply kE | refine kS ?_ GE407.out) | exact HB.out)) hb); have n2_ := Aside0.mk (hbox); have n3_ := Aside0.mk ((by rw [hg]; exact (below_size (by repeat (first | (with_reducible first | exact HB.out | apply kL | apply kM | apply kE | refine kS ?_ GE407.out) | exact HB.out))) : w.heap.size ≤ gb416)); have n4_ := Aside0.mk ((by rw [hg]; exact (below_size (by repeat (first | (with_reducible first | exact HB.out | apply kL | apply kM | apply kE | refine kS ?_ GE407.out) | exact HB.out))) : w.heap.size ≤ gb416)); have n5_ := Aside0.mk ((by rw [hg]; exact Nat.ne_of_lt (blk_lt (g := gb407) (o := .cells #[.int .i64 x408000_1, .int .i64 x408001_1, .int .u8 x408002_1, .int .i64 x408003_1, .int .i64 x408004_1, .int .i64 x408005_1, .int .i64 x408006_1, .bool x408007_1] 25 (0, 0)) (by (with_reducible repeat (first | refine kN ?_ _ | refine kD ?_ | refine kA ?_ _)); exact BK407.out)) : gb407 ≠ gb416)); have n6_ := Aside0.mk ((by rw [hg]; exact Nat.ne_of_gt (blk_lt (g := gb407) (o := .cells #[.int .i64 x408000_1, .int .i64 x408001_1, .int .u8 x408002_1, .int .i64 x408003_1, .int .i64 x408004_1, .int .i64 x408005_1, .int .i64 x408006_1, .bool x408007_1] 25 (0, 0)) (by (with_reducible repeat (first | refine kN ?_ _ | refine kD ?_ | refine kA ?_ _)); exact BK407.out)) : gb416 ≠ gb407)); clear BK407; clear HB; have BK407 := n0_; have HB := n1_; have BK416 := n2_; have GW416 := n3_; have GE416 := n4_; have NB407_416 := n5_; have NB416_407 := n6_; clear n0_ n1_ n2_ n3_ n4_ n5_ n6_; clear hb hbox hg; have hnb17 := NB416_407.out; have hnc17 := NB407_416.out; have hcz18_0 : w16.cell? ⟨gb416, 0, none⟩ = some (.int .u8 0) := (kC BK416.out 0).trans rfl; have hcz18_1 : w16.cell? ⟨gb416, 1, none⟩ = some (.int .i64 0) := (kC BK416.out 1).trans rfl; have hcz18_2 : w16.cell? ⟨gb416, 2, none⟩ = some (.int .i64 0) := (kC BK416.out 2).trans rfl; have hcz18_3 : w16.cell? ⟨gb416, 3, none⟩ = some (.int .i64 0) := (kC BK416.out 3).trans rfl; have hcz18_4 : w16.cell? ⟨gb416, 4, none⟩ = some (.int .i64 0) := (kC BK416.out 4).trans rfl; have hcz18_5 : w16.cell? ⟨gb416, 5, none⟩ = some (.int .u8 0) := (kC BK416.out 5).trans rfl; have hfz18_0 := kF BK416.out 0; have hfz18_1 := kF BK416.out 1; have hfz18_2 := kF BK416.out 2; have hfz18_3 := kF BK416.out 3; have hfz18_4 := kF BK416.out 4; have hfz18_5 := kF BK416.out 5))
     (try simp only [Act.put, List.setIfInBounds_toArray, List.set_cons_zero, List.set_cons_succ])
     go_cut [46] (fun v46 wc => ∃ (kq : Nat) (x46_12 : Bool), v46 = .bool x46_12 ∧ Aside0 (paybooklaw12_CycleLadder.j1 kq a0 x8_1 x9_1 x46_12 x408000_1 x408001_1 x408002_1 x408003_1 x408004_1 x408005_1 x408006_1 x408007_1 t409 t410 t411 t412 t413 t414 = some true) ∧ Aside0 (kq ≤ k1) ∧ Aside0 (wc.heap[gb407]? = some (.cells #[.int .i64 x408000_1, .int .i64 x408001_1, .int .u8 x408002_1, .int .i64 x408003_1, .int .i64 x408004_1, .int .i64 x408005_1, .int .i64 x408006_1, .bool x408007_1] 25 (0, 0))) ∧ Aside0 (wc.heap[gb416]? = some (.cells #[.int .u8 t409, .int .i64 t410, .int .i64 t411, .int .i64 t412, .int .i64 t413, .int .u8 t414] 28 (0, 0))) ∧ Aside0 (Below w.heap.size w wc))
     case first =>
      have H := HC13.out
      clear HC13
      by_cases c19 : t415 = true
      ·subst c19
       have H1 : (if t409 = 1 then (paybooklaw12_CycleLadder.j1 k1 a0 x8_1 x9_1 (t412 != (wrap64 (x9_1 + 1))) x408000_1 x408001_1 x408002_1 x408003_1 x408004_1 x408005_1 x408006_1 x408007_1 t409 t410 t411 t412 t413 t414) else (paybooklaw12_CycleLadder.j1 k1 a0 x8_1 x9_1 true x408000_1 x408001_1 x408002_1 x408003_1 x408004_1 x408005_1 x408006_1 x408007_1 t409 t410 t411 t412 t413 t414)) = some true := by rw [if_pos rfl] at H; try exact H
       clear H
       have H := H1
       clear H1
       by_cases c20 : t409 = 1
       ·rw [if_pos c20] at H
        have c20b0 : (t409 == 1) = true := beq_iff_eq.mpr c20
        have c20b1 : (t409 != 1) = false := bne_eq_false_iff_eq.mpr c20
        clear c20
        (first | (generalize hg_ : (t409 == 1) = bg_ at *; subst c20b0; have c20b0 := hg_; clear hg_) | rw [c20b0] | (simp only [i64_w, i32_w]; rw [c20b0]) | skip)
        have H' := Aside0.mk H
        clear H
        have hnb21 := NB416_407.out
        have hnc21 := NB407_416.out
        have hcz22_0 : w16.cell? ⟨gb416, 0, none⟩ = some (.int .u8 0) := (kC BK416.out 0).trans rfl
        have hcz22_1 : w16.cell? ⟨gb416, 1, none⟩ = some (.int .i64 0) := (kC BK416.out 1).trans rfl
        have hcz22_2 : w16.cell? ⟨gb416, 2, none⟩ = some (.int .i64 0) := (kC BK416.out 2).trans rfl
        have hcz22_3 : w16.cell? ⟨gb416, 3, none⟩ = some (.int .i64 0) := (kC BK416.out 3).trans rfl
        have hcz22_4 : w16.cell? ⟨gb416, 4, none⟩ = some (.int .i64 0) := (kC BK416.out 4).trans rfl
        have hcz22_5 : w16.cell? ⟨gb416, 5, none⟩ = some (.int .u8 0) := (kC BK416.out 5).trans rfl
        have hfz22_0 := kF BK416.out 0
        have hfz22_1 := kF BK416.out 1
        have hfz22_2 := kF BK416.out 2
        have hfz22_3 := kF BK416.out 3
        have hfz22_4 := kF BK416.out 4
        have hfz22_5 := kF BK416.out 5
        go_wp2
        go_meet
        case rel => exact ⟨_, ((t412 != (wrap64 (x9_1 + 1)))), (by first | rfl | (simp; done) | (simp [*]; done)), H', ⟨by have := HK1.out; first | omega | exact Nat.le_refl _⟩, ⟨by (with_reducible repeat (first | refine kN ?_ _ | refine kD ?_ | refine kA ?_ _)); refine kR ?_ NB407_416.out _; (with_reducible repeat (first | refine kN ?_ _ | refine kD ?_ | refine kA ?_ _)); refine kR ?_ NB407_416.out _; (with_reducible repeat (first | refine kN ?_ _ | refine kD ?_ | refine kA ?_ _)); refine kR ?_ NB407_416.out _; (with_reducible repeat (first | refine kN ?_ _ | refine kD ?_ | refine kA ?_ _)); refine kR ?_ NB407_416.out _; (with_reducible repeat (first | refine kN ?_ _ | refine kD ?_ | refine kA ?_ _)); refine kR ?_ NB407_416.out _; (with_reducible repeat (first | refine kN ?_ _ | refine kD ?_ | refine kA ?_ _)); refine kR ?_ NB407_416.out _; (with_reducible repeat (first | refine kN ?_ _ | refine kD ?_ | refine kA ?_ _)); exact BK407.out⟩, ⟨by (with_reducible repeat (first | refine kN ?_ _ | refine kD ?_ | refine kA ?_ _)); refine kP (cs := #[.int .u8 t409, .int .i64 t410, .int .i64 t411, .int .i64 t412, .int .i64 t413, .int .u8 0]) ?_ 5 _ rfl; (with_reducible repeat (first | refine kN ?_ _ | refine kD ?_ | refine kA ?_ _)); refine kP (cs := #[.int .u8 t409, .int .i64 t410, .int .i64 t411, .int .i64 t412, .int .i64 0, .int .u8 0]) ?_ 4 _ rfl; (with_reducible repeat (first | refine kN ?_ _ | refine kD ?_ | refine kA ?_ _)); refine kP (cs := #[.int .u8 t409, .int .i64 t410, .int .i64 t411, .int .i64 0, .int .i64 0, .int .u8 0]) ?_ 3 _ rfl; (with_reducible repeat (first | refine kN ?_ _ | refine kD ?_ | refine kA ?_ _)); refine kP (cs := #[.int .u8 t409, .int .i64 t410, .int .i64 0, .int .i64 0, .int .i64 0, .int .u8 0]) ?_ 2 _ rfl; (with_reducible repeat (first | refine kN ?_ _ | refine kD ?_ | refine kA ?_ _)); refine kP (cs := #[.int .u8 t409, .int .i64 0, .int .i64 0, .int .i64 0, .int .i64 0, .int .u8 0]) ?_ 1 _ rfl; (with_reducible repeat (first | refine kN ?_ _ | refine kD ?_ | refine kA ?_ _)); refine kP (cs := #[.int .u8 0, .int .i64 0, .int .i64 0, .int .i64 0, .int .i64 0, .int .u8 0]) ?_ 0 _ rfl; (with_reducible repeat (first | refine kN ?_ _ | refine kD ?_ | refine kA ?_ _)); exact BK416.out⟩, ⟨by repeat (first | (with_reducible first | exact HB.out | apply kL | apply kM | apply kE | refine kS ?_ GE407.out | refine kS ?_ GE416.out) | exact HB.out)⟩⟩
       ·rw [if_neg c20] at H
        have c20b0 : (t409 == 1) = false := beq_eq_false_iff_ne.mpr c20
        have c20b1 : (t409 != 1) = true := bne_iff_ne.mpr c20
        (first | (generalize hg_ : (t409 == 1) = bg_ at *; subst c20b0; have c20b0 := hg_; clear hg_) | rw [c20b0] | (simp only [i64_w, i32_w]; rw [c20b0]) | skip)
        have H' := Aside0.mk H
        clear H
        have hnb23 := NB416_407.out
        have hnc23 := NB407_416.out
        have hcz24_0 : w16.cell? ⟨gb416, 0, none⟩ = some (.int .u8 0) := (kC BK416.out 0).trans rfl
        have hcz24_1 : w16.cell? ⟨gb416, 1, none⟩ = some (.int .i64 0) := (kC BK416.out 1).trans rfl
        have hcz24_2 : w16.cell? ⟨gb416, 2, none⟩ = some (.int .i64 0) := (kC BK416.out 2).trans rfl
        have hcz24_3 : w16.cell? ⟨gb416, 3, none⟩ = some (.int .i64 0) := (kC BK416.out 3).trans rfl
        have hcz24_4 : w16.cell? ⟨gb416, 4, none⟩ = some (.int .i64 0) := (kC BK416.out 4).trans rfl
        have hcz24_5 : w16.cell? ⟨gb416, 5, none⟩ = some (.int .u8 0) := (kC BK416.out 5).trans rfl
        have hfz24_0 := kF BK416.out 0
        have hfz24_1 := kF BK416.out 1
        have hfz24_2 := kF BK416.out 2
        have hfz24_3 := kF BK416.out 3
        have hfz24_4 := kF BK416.out 4
        have hfz24_5 := kF BK416.out 5
        go_wp2
        go_meet
        case rel => exact ⟨_, (true), (by first | rfl | (simp; done) | (simp [*]; done)), H', ⟨by have := HK1.out; first | omega | exact Nat.le_refl _⟩, ⟨by (with_reducible repeat (first | refine kN ?_ _ | refine kD ?_ | refine kA ?_ _)); refine kR ?_ NB407_416.out _; (with_reducible repeat (first | refine kN ?_ _ | refine kD ?_ | refine kA ?_ _)); refine kR ?_ NB407_416.out _; (with_reducible repeat (first | refine kN ?_ _ | refine kD ?_ | refine kA ?_ _)); refine kR ?_ NB407_416.out _; (with_reducible repeat (first | refine kN ?_ _ | refine kD ?_ | refine kA ?_ _)); refine kR ?_ NB407_416.out _; (with_reducible repeat (first | refine kN ?_ _ | refine kD ?_ | refine kA ?_ _)); refine kR ?_ NB407_416.out _; (with_reducible repeat (first | refine kN ?_ _ | refine kD ?_ | refine kA ?_ _)); refine kR ?_ NB407_416.out _; (with_reducible repeat (first | refine kN ?_ _ | refine kD ?_ | refine kA ?_ _)); exact BK407.out⟩, ⟨by (with_reducible repeat (first | refine kN ?_ _ | refine kD ?_ | refine kA ?_ _)); refine kP (cs := #[.int .u8 t409, .int .i64 t410, .int .i64 t411, .int .i64 t412, .int .i64 t413, .int .u8 0]) ?_ 5 _ rfl; (with_reducible repeat (first | refine kN ?_ _ | refine kD ?_ | refine kA ?_ _)); refine kP (cs := #[.int .u8 t409, .int .i64 t410, .int .i64 t411, .int .i64 t412, .int .i64 0, .int .u8 0]) ?_ 4 _ rfl; (with_reducible repeat (first | refine kN ?_ _ | refine kD ?_ | refine kA ?_ _)); refine kP (cs := #[.int .u8 t409, .int .i64 t410, .int .i64 t411, .int .i64 0, .int .i64 0, .int .u8 0]) ?_ 3 _ rfl; (with_reducible repeat (first | refine kN ?_ _ | refine kD ?_ | refine kA ?_ _)); refine kP (cs := #[.int .u8 t409, .int .i64 t410, .int .i64 0, .int .i64 0, .int .i64 0, .int .u8 0]) ?_ 2 _ rfl; (with_reducible repeat (first | refine kN ?_ _ | refine kD ?_ | refine kA ?_ _)); refine kP (cs := #[.int .u8 t409, .int .i64 0, .int .i64 0, .int .i64 0, .int .i64 0, .int .u8 0]) ?_ 1 _ rfl; (with_reducible repeat (first | refine kN ?_ _ | refine kD ?_ | refine kA ?_ _)); refine kP (cs := #[.int .u8 0, .int .i64 0, .int .i64 0, .int .i64 0, .int .i64 0, .int .u8 0]) ?_ 0 _ rfl; (with_reducible repeat (first | refine kN ?_ _ | refine kD ?_ | refine kA ?_ _)); exact BK416.out⟩, ⟨by repeat (first | (with_reducible first | exact HB.out | apply kL | apply kM | apply kE | refine kS ?_ GE407.out | refine kS ?_ GE416.out) | exact HB.out)⟩⟩
      ·replace c19 := Bool.eq_false_iff.mpr c19
       subst c19
       have H1 : (paybooklaw12_CycleLadder.j1 k1 a0 x8_1 x9_1 true x408000_1 x408001_1 x408002_1 x408003_1 x408004_1 x408005_1 x408006_1 x408007_1 t409 t410 t411 t412 t413 t414) = some true := by rw [if_neg (show ¬ (false = true) by decide)] at H; try exact H
       clear H
       have H := H1
       clear H1
       have H' := Aside0.mk H
       clear H
       go_wp2
       go_meet
       case rel => exact ⟨_, (true), (by first | rfl | (simp; done) | (simp [*]; done)), H', ⟨by have := HK1.out; first | omega | exact Nat.le_refl _⟩, ⟨by (with_reducible repeat (first | refine kN ?_ _ | refine kD ?_ | refine kA ?_ _)); refine kR ?_ NB407_416.out _; (with_reducible repeat (first | refine kN ?_ _ | refine kD ?_ | refine kA ?_ _)); refine kR ?_ NB407_416.out _; (with_reducible repeat (first | refine kN ?_ _ | refine kD ?_ | refine kA ?_ _)); refine kR ?_ NB407_416.out _; (with_reducible repeat (first | refine kN ?_ _ | refine kD ?_ | refine kA ?_ _)); refine kR ?_ NB407_416.out _; (with_reducible repeat (first | refine kN ?_ _ | refine kD ?_ | refine kA ?_ _)); refine kR ?_ NB407_416.out _; (with_reducible repeat (first | refine kN ?_ _ | refine kD ?_ | refine kA ?_ _)); refine kR ?_ NB407_416.out _; (with_reducible repeat (first | refine kN ?_ _ | refine kD ?_ | refine kA ?_ _)); exact BK407.out⟩, ⟨by (with_reducible repeat (first | refine kN ?_ _ | refine kD ?_ | refine kA ?_ _)); refine kP (cs := #[.int .u8 t409, .int .i64 t410, .int .i64 t411, .int .i64 t412, .int .i64 t413, .int .u8 0]) ?_ 5 _ rfl; (with_reducible repeat (first | refine kN ?_ _ | refine kD ?_ | refine kA ?_ _)); refine kP (cs := #[.int .u8 t409, .int .i64 t410, .int .i64 t411, .int .i64 t412, .int .i64 0, .int .u8 0]) ?_ 4 _ rfl; (with_reducible repeat (first | refine kN ?_ _ | refine kD ?_ | refine kA ?_ _)); refine kP (cs := #[.int .u8 t409, .int .i64 t410, .int .i64 t411, .int .i64 0, .int .i64 0, .int .u8 0]) ?_ 3 _ rfl; (with_reducible repeat (first | refine kN ?_ _ | refine kD ?_ | refine kA ?_ _)); refine kP (cs := #[.int .u8 t409, .int .i64 t410, .int .i64 0, .int .i64 0, .int .i64 0, .int .u8 0]) ?_ 2 _ rfl; (with_reducible repeat (first | refine kN ?_ _ | refine kD ?_ | refine kA ?_ _)); refine kP (cs := #[.int .u8 t409, .int .i64 0, .int .i64 0, .int .i64 0, .int .i64 0, .int .u8 0]) ?_ 1 _ rfl; (with_reducible repeat (first | refine kN ?_ _ | refine kD ?_ | refine kA ?_ _)); refine kP (cs := #[.int .u8 0, .int .i64 0, .int .i64 0, .int .i64 0, .int .i64 0, .int .u8 0]) ?_ 0 _ rfl; (with_reducible repeat (first | refine kN ?_ _ | refine kD ?_ | refine kA ?_ _)); exact BK416.out⟩, ⟨by repeat (first | (with_reducible first | exact HB.out | apply kL | apply kM | apply kE | refine kS ?_ GE407.out | refine kS ?_ GE416.out) | exact HB.out)⟩⟩
     case rest =>
      clear HC13
      try clear c1
      try clear c2
      try clear p2
      try clear c4
      try clear c4b0
      try clear c4b1
      try clear p6
      try clear c9
      try clear c11
      try clear c11b0
      try clear c13
      try clear c15
      try clear c17
      try clear c19
      try clear c20
      try clear c20b0
      try clear c20b1
      try clear c21
      try clear c23
      try clear hcz10_0
      try clear hcz10_1
      try clear hcz10_2
      try clear hcz10_3
      try clear hcz10_4
      try clear hcz10_5
      try clear hcz10_6
      try clear hcz10_7
      try clear hcz14_0
      try clear hcz14_1
      try clear hcz14_2
      try clear hcz14_3
      try clear hcz14_4
      try clear hcz14_5
      try clear hcz14_6
      try clear hcz14_7
      try clear hcz18_0
      try clear hcz18_1
      try clear hcz18_2
      try clear hcz18_3
      try clear hcz18_4
      try clear hcz18_5
      try clear hcz22_0
      try clear hcz22_1
      try clear hcz22_2
      try clear hcz22_3
      try clear hcz22_4
      try clear hcz22_5
      try clear hcz24_0
      try clear hcz24_1
      try clear hcz24_2
      try clear hcz24_3
      try clear hcz24_4
      try clear hcz24_5
      try clear hfz10_0
      try clear hfz10_1
      try clear hfz10_2
      try clear hfz10_3
      try clear hfz10_4
      try clear hfz10_5
      try clear hfz10_6
      try clear hfz10_7
      try clear hfz14_0
      try clear hfz14_1
      try clear hfz14_2
      try clear hfz14_3
      try clear hfz14_4
      try clear hfz14_5
      try clear hfz14_6
      try clear hfz14_7
      try clear hfz18_0
      try clear hfz18_1
      try clear hfz18_2
      try clear hfz18_3
      try clear hfz18_4
      try clear hfz18_5
      try clear hfz22_0
      try clear hfz22_1
      try clear hfz22_2
      try clear hfz22_3
      try clear hfz22_4
      try clear hfz22_5
      try clear hfz24_0
      try clear hfz24_1
      try clear hfz24_2
      try clear hfz24_3
      try clear hfz24_4
      try clear hfz24_5
      try clear p2
      try clear p6
      obtain ⟨kq, x46_12, rfl, HA, HJ12, BK407, BK416, HB⟩ := hcut
      cases kq with
      | zero => exact absurd HA.out (by simp [paybooklaw12_CycleLadder.j1])
      | succ kj12 =>
       have H := HA.out
       clear HA
       simp only [paybooklaw12_CycleLadder.j1] at H
       by_cases c25 : x46_12 = true
       ·subst c25
        have H1 : (some false) = some true := by rw [if_pos rfl] at H; try exact H
        clear H
        have H := H1
        clear H1
        exact absurd H (by simp)
       ·replace c25 := Bool.eq_false_iff.mpr c25
        subst c25
        have H1 : ((cycle_Hear.f kj12 0 x408000_1 x408001_1 x408002_1 x408003_1 x408004_1 x408005_1 x408006_1 x408007_1 t409 t410 t411 t412 t413 2 x8_1 false).bind fun bt417 => (if x9_1 = 3 then ((paybooklaw12_awake.f kj12).bind fun t426 => (if t426 = true then (if bt417.2.2.1 = 8 then (some (x8_1 == (wrap64 ((wrap64 (a0)) + 11)))) else (some false)) else (some false))) else ((paybookref12_Steps.f).bind fun t427 => (if 0 ≤ x9_1 then (if x9_1 < (t427.length : Int) then (if bt417.2.2.1 = 2 then (if bt417.2.2.2.2.2.2.1 = (wrap64 (x8_1 + (rd t427 x9_1))) then ((cycle_Wake.f bt417.1 bt417.2.1 bt417.2.2.1 bt417.2.2.2.1 bt417.2.2.2.2.1 bt417.2.2.2.2.2.1 bt417.2.2.2.2.2.2.1 bt417.2.2.2.2.2.2.2.1 (wrap64 ((wrap64 (x8_1 + (rd t427 x9_1))) - 1))).bind fun bt431 => (if (!(bt431.1 == bt417.1) || (!(bt431.2.1 == bt417.2.1) || (!(bt431.2.2.1 == bt417.2.2.1) || (!(bt431.2.2.2.1 == bt417.2.2.2.1) || (!(bt431.2.2.2.2.1 == bt417.2.2.2.2.1) || (!(bt431.2.2.2.2.2.1 == bt417.2.2.2.2.2.1) || (!(bt431.2.2.2.2.2.2.1 == bt417.2.2.2.2.2.2.1) || (!(bt431.2.2.2.2.2.2.2 == bt417.2.2.2.2.2.2.2.1))))))))) = true then (some false) else ((cycle_Wake.f bt417.1 bt417.2.1 bt417.2.2.1 bt417.2.2.2.1 bt417.2.2.2.2.1 bt417.2.2.2.2.2.1 bt417.2.2.2.2.2.2.1 bt417.2.2.2.2.2.2.2.1 (wrap64 (x8_1 + (rd t427 x9_1)))).bind fun bt439 => (paybooklaw12_CycleLadder.l0 kj12 a0 (wrap64 (x8_1 + (rd t427 x9_1))) (wrap64 (x9_1 + 1)) bt439.1 bt439.2.1 bt439.2.2.1 bt439.2.2.2.1 bt439.2.2.2.2.1 bt439.2.2.2.2.2.1 bt439.2.2.2.2.2.2.1 bt439.2.2.2.2.2.2.2)))) else (some false)) else (some false)) else (none)) else (none))))) = some true := by rw [if_neg (show ¬ (false = true) by decide)] at H; try exact H
        clear H
        have H := H1
        clear H1
        replace H := Option.bind_eq_some_iff.mp H
        obtain ⟨⟨t417, t418, t419, t420, t421, t422, t423, t424, t425⟩, A260, H⟩ := H
        replace H : (if x9_1 = 3 then ((paybooklaw12_awake.f kj12).bind fun t426 => (if t426 = true then (if t419 = 8 then (some (x8_1 == (wrap64 ((wrap64 (a0)) + 11)))) else (some false)) else (some false))) else ((paybookref12_Steps.f).bind fun t427 => (if 0 ≤ x9_1 then (if x9_1 < (t427.length : Int) then (if t419 = 2 then (if t423 = (wrap64 (x8_1 + (rd t427 x9_1))) then ((cycle_Wake.f t417 t418 t419 t420 t421 t422 t423 t424 (wrap64 ((wrap64 (x8_1 + (rd t427 x9_1))) - 1))).bind fun bt431 => (if (!(bt431.1 == t417) || (!(bt431.2.1 == t418) || (!(bt431.2.2.1 == t419) || (!(bt431.2.2.2.1 == t420) || (!(bt431.2.2.2.2.1 == t421) || (!(bt431.2.2.2.2.2.1 == t422) || (!(bt431.2.2.2.2.2.2.1 == t423) || (!(bt431.2.2.2.2.2.2.2 == t424))))))))) = true then (some false) else ((cycle_Wake.f t417 t418 t419 t420 t421 t422 t423 t424 (wrap64 (x8_1 + (rd t427 x9_1)))).bind fun bt439 => (paybooklaw12_CycleLadder.l0 kj12 a0 (wrap64 (x8_1 + (rd t427 x9_1))) (wrap64 (x9_1 + 1)) bt439.1 bt439.2.1 bt439.2.2.1 bt439.2.2.2.1 bt439.2.2.2.2.1 bt439.2.2.2.2.2.1 bt439.2.2.2.2.2.2.1 bt439.2.2.2.2.2.2.2)))) else (some false)) else (some false)) else (none)) else (none)))) = some true := H
        have A26 := Aside0.mk A260
        clear A260
        by_cases c27 : x9_1 = 3
        ·rw [if_pos c27] at H
         have c27b0 : (x9_1 == 3) = true := beq_iff_eq.mpr c27
         have c27b1 : (x9_1 != 3) = false := bne_eq_false_iff_eq.mpr c27
         clear c27
         replace H := Option.bind_eq_some_iff.mp H
         obtain ⟨t426, A280, H⟩ := H
         replace H : (if t426 = true then (if t419 = 8 then (some (x8_1 == (wrap64 ((wrap64 (a0)) + 11)))) else (some false)) else (some false)) = some true := H
         have A28 := Aside0.mk A280
         clear A280
         by_cases c29 : t426 = true
         ·subst c29
          have H1 : (if t419 = 8 then (some (x8_1 == (wrap64 ((wrap64 (a0)) + 11)))) else (some false)) = some true := by rw [if_pos rfl] at H; try exact H
          clear H
          have H := H1
          clear H1
          by_cases c30 : t419 = 8
          ·rw [if_pos c30] at H
           have c30b0 : (t419 == 8) = true := beq_iff_eq.mpr c30
           have c30b1 : (t419 != 8) = false := bne_eq_false_iff_eq.mpr c30
           clear c30
           have HT_ := Option.some.inj H
           clear H
           (try (have HT_z_ := HT_; simp only [beq_true, beq_false, true_beq, false_beq, Bool.not_eq_true', Bool.not_eq_false', Bool.not_true, Bool.not_false] at HT_z_))
           have hnb31 := NB416_407.out
           have hnc31 := NB407_416.out
           have hcz32_0 : wc.cell? ⟨gb416, 0, none⟩ = some (.int .u8 t409) := (kC BK416.out 0).trans rfl
           have hcz32_1 : wc.cell? ⟨gb416, 1, none⟩ = some (.int .i64 t410) := (kC BK416.out 1).trans rfl
           have hcz32_2 : wc.cell? ⟨gb416, 2, none⟩ = some (.int .i64 t411) := (kC BK416.out 2).trans rfl
           have hcz32_3 : wc.cell? ⟨gb416, 3, none⟩ = some (.int .i64 t412) := (kC BK416.out 3).trans rfl
           have hcz32_4 : wc.cell? ⟨gb416, 4, none⟩ = some (.int .i64 t413) := (kC BK416.out 4).trans rfl
           have hcz32_5 : wc.cell? ⟨gb416, 5, none⟩ = some (.int .u8 t414) := (kC BK416.out 5).trans rfl
           have hfz32_0 := kF BK416.out 0
           have hfz32_1 := kF BK416.out 1
           have hfz32_2 := kF BK416.out 2
           have hfz32_3 := kF BK416.out 3
           have hfz32_4 := kF BK416.out 4
           have hfz32_5 := kF BK416.out 5
           have hcz33_0 : wc.cell? ⟨gb407, 0, none⟩ = some (.int .i64 x408000_1) := (kC BK407.out 0).trans rfl
           have hcz33_1 : wc.cell? ⟨gb407, 1, none⟩ = some (.int .i64 x408001_1) := (kC BK407.out 1).trans rfl
           have hcz33_2 : wc.cell? ⟨gb407, 2, none⟩ = some (.int .u8 x408002_1) := (kC BK407.out 2).trans rfl
           have hcz33_3 : wc.cell? ⟨gb407, 3, none⟩ = some (.int .i64 x408003_1) := (kC BK407.out 3).trans rfl
           have hcz33_4 : wc.cell? ⟨gb407, 4, none⟩ = some (.int .i64 x408004_1) := (kC BK407.out 4).trans rfl
           have hcz33_5 : wc.cell? ⟨gb407, 5, none⟩ = some (.int .i64 x408005_1) := (kC BK407.out 5).trans rfl
           have hcz33_6 : wc.cell? ⟨gb407, 6, none⟩ = some (.int .i64 x408006_1) := (kC BK407.out 6).trans rfl
           have hcz33_7 : wc.cell? ⟨gb407, 7, none⟩ = some (.bool x408007_1) := (kC BK407.out 7).trans rfl
           have hfz33_0 := kF BK407.out 0
           have hfz33_1 := kF BK407.out 1
           have hfz33_2 := kF BK407.out 2
           have hfz33_3 := kF BK407.out 3
           have hfz33_4 := kF BK407.out 4
           have hfz33_5 := kF BK407.out 5
           have hfz33_6 := kF BK407.out 6
           have hfz33_7 := kF BK407.out 7
           go_wp2_with (first | ((with_reducible refine gate_callee (f := 18) rfl ?_); refine goesL_ (some 52) rfl rfl Tryd.func18 (by kernel_rfl) rfl #[.int .i64 0, .agg #[.int .i64 x408000_1, .int .i64 x408001_1, .int .u8 x408002_1, .int .i64 x408003_1, .int .i64 x408004_1, .int .i64 x408005_1, .int .i64 x408006_1, .bool x408007_1], .agg #[.int .u8 t409, .int .i64 t410, .int .i64 t411, .int .i64 t412, .int .i64 t413, .int .u8 2], .int .i64 x8_1, .bool false] rfl (by (try simp only [List.map_toArray, List.map_cons, List.map_nil]); first | done | rfl | (simp only [List.length_drop, List.length_take]; rfl)) ?_; (with_reducible refine (cycle_Hear.calls kj12 0 x408000_1 x408001_1 x408002_1 x408003_1 x408004_1 x408005_1 x408006_1 x408007_1 t409 t410 t411 t412 t413 2 x8_1 false t417 t418 t419 t420 t421 t422 t423 t424 t425 _ ?side1 A26.out).mono ?_); (case side1 => exact Kd.C_below HRG0.out (by repeat (first | (with_reducible first | exact HB.out | apply kL | apply kM | apply kE | refine kS ?_ GE407.out | refine kS ?_ GE416.out) | exact HB.out))); rintro e w34 ⟨rfl, hb⟩; refine ⟨_, rfl, ?_⟩; have n0_ := Aside0.mk (blk_below (g := gb407) (o := .cells #[.int .i64 x408000_1, .int .i64 x408001_1, .int .u8 x408002_1, .int .i64 x408003_1, .int .i64 x408004_1, .int .i64 x408005_1, .int .i64 x408006_1, .bool x408007_1] 25 (0, 0)) (by (with_reducible repeat (first | refine kN ?_ _ | refine kD ?_ | refine kA ?_ _)); refine kR ?_ NB407_416.out _; (with_reducible repeat (first | refine kN ?_ _ | refine kD ?_ | refine kA ?_ _)); exact BK407.out) hb); have n1_ := Aside0.mk (blk_below (g := gb416) (o := .cells #[.int .u8 t409, .int .i64 t410, .int .i64 t411, .int .i64 t412, .int .i64 t413, .int .u8 2] 28 (0, 0)) (by (with_reducible repeat (first | refine kN ?_ _ | refine kD ?_ | refine kA ?_ _)); refine kP (cs := #[.int .u8 t409, .int .i64 t410, .int .i64 t411, .int .i64 t412, .int .i64 t413, .int .u8 t414]) ?_ 5 _ rfl; (with_reducible repeat (first | refine kN ?_ _ | refine kD ?_ | refine kA ?_ _)); exact BK416.out) hb); have n2_ := Aside0.mk (below_step (by repeat (first | (with_reducible first | exact HB.out | apply kL | apply kM | apply kE | refine kS ?_ GE407.out | refine kS ?_ GE416.out) | exact HB.out)) hb); clear BK407; clear BK416; clear HB; have BK407 := n0_; have BK416 := n1_; have HB := n2_; clear n0_ n1_ n2_; (try clear hb); (try clear hb2); (try clear hk); (try clear hi); have hcz35_0 : w34.cell? ⟨gb407, 0, none⟩ = some (.int .i64 x408000_1) := (kC BK407.out 0).trans rfl; have hcz35_1 : w34.cell? ⟨gb407, 1, none⟩ = some (.int .i64 x408001_1) := (kC BK407.out 1).trans rfl; have hcz35_2 : w34.cell? ⟨gb407, 2, none⟩ = some (.int .u8 x408002_1) := (kC BK407.out 2).trans rfl; have hcz35_3 : w34.cell? ⟨gb407, 3, none⟩ = some (.int .i64 x408003_1) := (kC BK407.out 3).trans rfl; have hcz35_4 : w34.cell? ⟨gb407, 4, none⟩ = some (.int .i64 x408004_1) := (kC BK407.out 4).trans rfl; have hcz35_5 : w34.cell? ⟨gb407, 5, none⟩ = some (.int .i64 x408005_1) := (kC BK407.out 5).trans rfl; have hcz35_6 : w34.cell? ⟨gb407, 6, none⟩ = some (.int .i64 x408006_1) := (kC BK407.out 6).trans rfl; have hcz35_7 : w34.cell? ⟨gb407, 7, none⟩ = some (.bool x408007_1) := (kC BK407.out 7).trans rfl; have hfz35_0 := kF BK407.out 0; have hfz35_1 := kF BK407.out 1; have hfz35_2 := kF BK407.out 2; have hfz35_3 := kF BK407.out 3; have hfz35_4 := kF BK407.out 4; have hfz35_5 := kF BK407.out 5; have hfz35_6 := kF BK407.out 6; have hfz35_7 := kF BK407.out 7) | (go_at_call 15; (with_reducible refine (paybooklaw12_awake.calls kj12  true _ ?side1 A28.out).mono ?_); (case side1 => exact Kd.C_below HRG0.out (by repeat (first | (with_reducible first | exact HB.out | apply kL | apply kM | apply kE | refine kS ?_ GE407.out | refine kS ?_ GE416.out) | exact HB.out))); rintro e w36 ⟨rfl, hb⟩; have n0_ := Aside0.mk (blk_below (g := gb407) (o := .cells #[.int .i64 t417, .int .i64 t418, .int .u8 t419, .int .i64 t420, .int .i64 t421, .int .i64 t422, .int .i64 t423, .bool t424] 25 (0, 0)) (by (with_reducible repeat (first | refine kN ?_ _ | refine kD ?_ | refine kA ?_ _)); refine kP (cs := #[.int .i64 t417, .int .i64 t418, .int .u8 t419, .int .i64 t420, .int .i64 t421, .int .i64 t422, .int .i64 t423, .bool x408007_1]) ?_ 7 _ rfl; (with_reducible repeat (first | refine kN ?_ _ | refine kD ?_ | refine kA ?_ _)); refine kP (cs := #[.int .i64 t417, .int .i64 t418, .int .u8 t419, .int .i64 t420, .int .i64 t421, .int .i64 t422, .int .i64 x408006_1, .bool x408007_1]) ?_ 6 _ rfl; (with_reducible repeat (first | refine kN ?_ _ | refine kD ?_ | refine kA ?_ _)); refine kP (cs := #[.int .i64 t417, .int .i64 t418, .int .u8 t419, .int .i64 t420, .int .i64 t421, .int .i64 x408005_1, .int .i64 x408006_1, .bool x408007_1]) ?_ 5 _ rfl; (with_reducible repeat (first | refine kN ?_ _ | refine kD ?_ | refine kA ?_ _)); refine kP (cs := #[.int .i64 t417, .int .i64 t418, .int .u8 t419, .int .i64 t420, .int .i64 x408004_1, .int .i64 x408005_1, .int .i64 x408006_1, .bool x408007_1]) ?_ 4 _ rfl; (with_reducible repeat (first | refine kN ?_ _ | refine kD ?_ | refine kA ?_ _)); refine kP (cs := #[.int .i64 t417, .int .i64 t418, .int .u8 t419, .int .i64 x408003_1, .int .i64 x408004_1, .int .i64 x408005_1, .int .i64 x408006_1, .bool x408007_1]) ?_ 3 _ rfl; (with_reducible repeat (first | refine kN ?_ _ | refine kD ?_ | refine kA ?_ _)); refine kP (cs := #[.int .i64 t417, .int .i64 t418, .int .u8 x408002_1, .int .i64 x408003_1, .int .i64 x408004_1, .int .i64 x408005_1, .int .i64 x408006_1, .bool x408007_1]) ?_ 2 _ rfl; (with_reducible repeat (first | refine kN ?_ _ | refine kD ?_ | refine kA ?_ _)); refine kP (cs := #[.int .i64 t417, .int .i64 x408001_1, .int .u8 x408002_1, .int .i64 x408003_1, .int .i64 x408004_1, .int .i64 x408005_1, .int .i64 x408006_1, .bool x408007_1]) ?_ 1 _ rfl; (with_reducible repeat (first | refine kN ?_ _ | refine kD ?_ | refine kA ?_ _)); refine kP (cs := #[.int .i64 x408000_1, .int .i64 x408001_1, .int .u8 x408002_1, .int .i64 x408003_1, .int .i64 x408004_1, .int .i64 x408005_1, .int .i64 x408006_1, .bool x408007_1]) ?_ 0 _ rfl; (with_reducible repeat (first | refine kN ?_ _ | refine kD ?_ | refine kA ?_ _)); exact BK407.out) hb); have n1_ := Aside0.mk (blk_below (g := gb416) (o := .cells #[.int .u8 t409, .int .i64 t410, .int .i64 t411, .int .i64 t412, .int .i64 t413, .int .u8 2] 28 (0, 0)) (by (with_reducible repeat (first | refine kN ?_ _ | refine kD ?_ | refine kA ?_ _)); refine kR ?_ NB416_407.out _; (with_reducible repeat (first | refine kN ?_ _ | refine kD ?_ | refine kA ?_ _)); refine kR ?_ NB416_407.out _; (with_reducible repeat (first | refine kN ?_ _ | refine kD ?_ | refine kA ?_ _)); refine kR ?_ NB416_407.out _; (with_reducible repeat (first | refine kN ?_ _ | refine kD ?_ | refine kA ?_ _)); refine kR ?_ NB416_407.out _; (with_reducible repeat (first | refine kN ?_ _ | refine kD ?_ | refine kA ?_ _)); refine kR ?_ NB416_407.out _; (with_reducible repeat (first | refine kN ?_ _ | refine kD ?_ | refine kA ?_ _)); refine kR ?_ NB416_407.out _; (with_reducible repeat (first | refine kN ?_ _ | refine kD ?_ | refine kA ?_ _)); refine kR ?_ NB416_407.out _; (with_reducible repeat (first | refine kN ?_ _ | refine kD ?_ | refine kA ?_ _)); refine kR ?_ NB416_407.out _; (with_reducible repeat (first | refine kN ?_ _ | refine kD ?_ | refine kA ?_ _)); exact BK416.out) hb); have n2_ := Aside0.mk (below_step (by repeat (first | (with_reducible first | exact HB.out | apply kL | apply kM | apply kE | refine kS ?_ GE407.out | refine kS ?_ GE416.out) | exact HB.out)) hb); clear BK407; clear BK416; clear HB; have BK407 := n0_; have BK416 := n1_; have HB := n2_; clear n0_ n1_ n2_; (try clear hb); (try clear hb2); (try clear hk); (try clear hi)) | ((with_reducible refine gate_callee (f := 15) rfl ?_); refine goesL_ (some 84) rfl rfl Tryd.func15 (by kernel_rfl) rfl #[] rfl (by (try simp only [List.map_toArray, List.map_cons, List.map_nil]); first | done | rfl | (simp only [List.length_drop, List.length_take]; rfl)) ?_; (with_reducible refine (paybooklaw12_awake.calls kj12  true _ ?side1 A28.out).mono ?_); (case side1 => exact Kd.C_below HRG0.out (by repeat (first | (with_reducible first | exact HB.out | apply kL | apply kM | apply kE | refine kS ?_ GE407.out | refine kS ?_ GE416.out) | exact HB.out))); rintro e w36 ⟨rfl, hb⟩; refine ⟨_, rfl, ?_⟩; have n0_ := Aside0.mk (blk_below (g := gb407) (o := .cells #[.int .i64 t417, .int .i64 t418, .int .u8 t419, .int .i64 t420, .int .i64 t421, .int .i64 t422, .int .i64 t423, .bool t424] 25 (0, 0)) (by (with_reducible repeat (first | refine kN ?_ _ | refine kD ?_ | refine kA ?_ _)); refine kP (cs := #[.int .i64 t417, .int .i64 t418, .int .u8 t419, .int .i64 t420, .int .i64 t421, .int .i64 t422, .int .i64 t423, .bool x408007_1]) ?_ 7 _ rfl; (with_reducible repeat (first | refine kN ?_ _ | refine kD ?_ | refine kA ?_ _)); refine kP (cs := #[.int .i64 t417, .int .i64 t418, .int .u8 t419, .int .i64 t420, .int .i64 t421, .int .i64 t422, .int .i64 x408006_1, .bool x408007_1]) ?_ 6 _ rfl; (with_reducible repeat (first | refine kN ?_ _ | refine kD ?_ | refine kA ?_ _)); refine kP (cs := #[.int .i64 t417, .int .i64 t418, .int .u8 t419, .int .i64 t420, .int .i64 t421, .int .i64 x408005_1, .int .i64 x408006_1, .bool x408007_1]) ?_ 5 _ rfl; (with_reducible repeat (first | refine kN ?_ _ | refine kD ?_ | refine kA ?_ _)); refine kP (cs := #[.int .i64 t417, .int .i64 t418, .int .u8 t419, .int .i64 t420, .int .i64 x408004_1, .int .i64 x408005_1, .int .i64 x408006_1, .bool x408007_1]) ?_ 4 _ rfl; (with_reducible repeat (first | refine kN ?_ _ | refine kD ?_ | refine kA ?_ _)); refine kP (cs := #[.int .i64 t417, .int .i64 t418, .int .u8 t419, .int .i64 x408003_1, .int .i64 x408004_1, .int .i64 x408005_1, .int .i64 x408006_1, .bool x408007_1]) ?_ 3 _ rfl; (with_reducible repeat (first | refine kN ?_ _ | refine kD ?_ | refine kA ?_ _)); refine kP (cs := #[.int .i64 t417, .int .i64 t418, .int .u8 x408002_1, .int .i64 x408003_1, .int .i64 x408004_1, .int .i64 x408005_1, .int .i64 x408006_1, .bool x408007_1]) ?_ 2 _ rfl; (with_reducible repeat (first | refine kN ?_ _ | refine kD ?_ | refine kA ?_ _)); refine kP (cs := #[.int .i64 t417, .int .i64 x408001_1, .int .u8 x408002_1, .int .i64 x408003_1, .int .i64 x408004_1, .int .i64 x408005_1, .int .i64 x408006_1, .bool x408007_1]) ?_ 1 _ rfl; (with_reducible repeat (first | refine kN ?_ _ | refine kD ?_ | refine kA ?_ _)); refine kP (cs := #[.int .i64 x408000_1, .int .i64 x408001_1, .int .u8 x408002_1, .int .i64 x408003_1, .int .i64 x408004_1, .int .i64 x408005_1, .int .i64 x408006_1, .bool x408007_1]) ?_ 0 _ rfl; (with_reducible repeat (first | refine kN ?_ _ | refine kD ?_ | refine kA ?_ _)); exact BK407.out) hb); have n1_ := Aside0.mk (blk_below (g := gb416) (o := .cells #[.int .u8 t409, .int .i64 t410, .int .i64 t411, .int .i64 t412, .int .i64 t413, .int .u8 2] 28 (0, 0)) (by (with_reducible repeat (first | refine kN ?_ _ | refine kD ?_ | refine kA ?_ _)); refine kR ?_ NB416_407.out _; (with_reducible repeat (first | refine kN ?_ _ | refine kD ?_ | refine kA ?_ _)); refine kR ?_ NB416_407.out _; (with_reducible repeat (first | refine kN ?_ _ | refine kD ?_ | refine kA ?_ _)); refine kR ?_ NB416_407.out _; (with_reducible repeat (first | refine kN ?_ _ | refine kD ?_ | refine kA ?_ _)); refine kR ?_ NB416_407.out _; (with_reducible repeat (first | refine kN ?_ _ | refine kD ?_ | refine kA ?_ _)); refine kR ?_ NB416_407.out _; (with_reducible repeat (first | refine kN ?_ _ | refine kD ?_ | refine kA ?_ _)); refine kR ?_ NB416_407.out _; (with_reducible repeat (first | refine kN ?_ _ | refine kD ?_ | refine kA ?_ _)); refine kR ?_ NB416_407.out _; (with_reducible repeat (first | refine kN ?_ _ | refine kD ?_ | refine kA ?_ _)); refine kR ?_ NB416_407.out _; (with_reducible repeat (first | refine kN ?_ _ | refine kD ?_ | refine kA ?_ _)); exact BK416.out) hb); have n2_ := Aside0.mk (below_step (by repeat (first | (with_reducible first | exact HB.out | apply kL | apply kM | apply kE | refine kS ?_ GE407.out | refine kS ?_ GE416.out) | exact HB.out)) hb); clear BK407; clear BK416; clear HB; have BK407 := n0_; have BK416 := n1_; have HB := n2_; clear n0_ n1_ n2_; (try clear hb); (try clear hb2); (try clear hk); (try clear hi); have hcz37_0 : w36.cell? ⟨gb407, 0, none⟩ = some (.int .i64 t417) := (kC BK407.out 0).trans rfl; have hcz37_1 : w36.cell? ⟨gb407, 1, none⟩ = some (.int .i64 t418) := (kC BK407.out 1).trans rfl; have hcz37_2 : w36.cell? ⟨gb407, 2, none⟩ = some (.int .u8 t419) := (kC BK407.out 2).trans rfl; have hcz37_3 : w36.cell? ⟨gb407, 3, none⟩ = some (.int .i64 t420) := (kC BK407.out 3).trans rfl; have hcz37_4 : w36.cell? ⟨gb407, 4, none⟩ = some (.int .i64 t421) := (kC BK407.out 4).trans rfl; have hcz37_5 : w36.cell? ⟨gb407, 5, none⟩ = some (.int .i64 t422) := (kC BK407.out 5).trans rfl; have hcz37_6 : w36.cell? ⟨gb407, 6, none⟩ = some (.int .i64 t423) := (kC BK407.out 6).trans rfl; have hcz37_7 : w36.cell? ⟨gb407, 7, none⟩ = some (.bool t424) := (kC BK407.out 7).trans rfl; have hfz37_0 := kF BK407.out 0; have hfz37_1 := kF BK407.out 1; have hfz37_2 := kF BK407.out 2; have hfz37_3 := kF BK407.out 3; have hfz37_4 := kF BK407.out 4; have hfz37_5 := kF BK407.out 5; have hfz37_6 := kF BK407.out 6; have hfz37_7 := kF BK407.out 7))
           go_ret
           exact ⟨by first | rfl | (simp [errW_none, errW_some] <;> rfl) | (simp [*, errW_none, errW_some] <;> rfl), by repeat (first | (with_reducible first | exact HB.out | apply kL | apply kM | apply kE | refine kS ?_ GE407.out | refine kS ?_ GE416.out) | exact HB.out)⟩
          ·rw [if_neg c30] at H
           have c30b0 : (t419 == 8) = false := beq_eq_false_iff_ne.mpr c30
           have c30b1 : (t419 != 8) = true := bne_iff_ne.mpr c30
           exact absurd H (by simp)
         ·replace c29 := Bool.eq_false_iff.mpr c29
          subst c29
          have H1 : (some false) = some true := by rw [if_neg (show ¬ (false = true) by decide)] at H; try exact H
          clear H
          have H := H1
          clear H1
          exact absurd H (by simp)
        ·rw [if_neg c27] at H
         have c27b0 : (x9_1 == 3) = false := beq_eq_false_iff_ne.mpr c27
         have c27b1 : (x9_1 != 3) = true := bne_iff_ne.mpr c27
         replace H := Option.bind_eq_some_iff.mp H
         obtain ⟨t427, A380, H⟩ := H
         replace H : (if 0 ≤ x9_1 then (if x9_1 < (t427.length : Int) then (if t419 = 2 then (if t423 = (wrap64 (x8_1 + (rd t427 x9_1))) then ((cycle_Wake.f t417 t418 t419 t420 t421 t422 t423 t424 (wrap64 ((wrap64 (x8_1 + (rd t427 x9_1))) - 1))).bind fun bt431 => (if (!(bt431.1 == t417) || (!(bt431.2.1 == t418) || (!(bt431.2.2.1 == t419) || (!(bt431.2.2.2.1 == t420) || (!(bt431.2.2.2.2.1 == t421) || (!(bt431.2.2.2.2.2.1 == t422) || (!(bt431.2.2.2.2.2.2.1 == t423) || (!(bt431.2.2.2.2.2.2.2 == t424))))))))) = true then (some false) else ((cycle_Wake.f t417 t418 t419 t420 t421 t422 t423 t424 (wrap64 (x8_1 + (rd t427 x9_1)))).bind fun bt439 => (paybooklaw12_CycleLadder.l0 kj12 a0 (wrap64 (x8_1 + (rd t427 x9_1))) (wrap64 (x9_1 + 1)) bt439.1 bt439.2.1 bt439.2.2.1 bt439.2.2.2.1 bt439.2.2.2.2.1 bt439.2.2.2.2.2.1 bt439.2.2.2.2.2.2.1 bt439.2.2.2.2.2.2.2)))) else (some false)) else (some false)) else (none)) else (none)) = some true := H
         have A38 := Aside0.mk A380
         clear A380
         by_cases c39 : 0 ≤ x9_1
         ·rw [if_pos c39] at H
          have c39b0 : decide (0 ≤ x9_1) = true := decide_eq_true c39
          clear c39
          by_cases c40 : x9_1 < (t427.length : Int)
          ·rw [if_pos c40] at H
           have c40b0 : decide (x9_1 < (t427.length : Int)) = true := decide_eq_true c40
           clear c40
           by_cases c41 : t419 = 2
           ·rw [if_pos c41] at H
            have c41b0 : (t419 == 2) = true := beq_iff_eq.mpr c41
            have c41b1 : (t419 != 2) = false := bne_eq_false_iff_eq.mpr c41
            clear c41
            by_cases c42 : t423 = (wrap64 (x8_1 + (rd t427 x9_1)))
            ·rw [if_pos c42] at H
             have c42b0 : (t423 == (wrap64 (x8_1 + (rd t427 x9_1)))) = true := beq_iff_eq.mpr c42
             have c42b1 : (t423 != (wrap64 (x8_1 + (rd t427 x9_1)))) = false := bne_eq_false_iff_eq.mpr c42
             clear c42
             replace H := Option.bind_eq_some_iff.mp H
             obtain ⟨⟨t431, t432, t433, t434, t435, t436, t437, t438⟩, A430, H⟩ := H
             replace H : (if (!(t431 == t417) || (!(t432 == t418) || (!(t433 == t419) || (!(t434 == t420) || (!(t435 == t421) || (!(t436 == t422) || (!(t437 == t423) || (!(t438 == t424))))))))) = true then (some false) else ((cycle_Wake.f t417 t418 t419 t420 t421 t422 t423 t424 (wrap64 (x8_1 + (rd t427 x9_1)))).bind fun bt439 => (paybooklaw12_CycleLadder.l0 kj12 a0 (wrap64 (x8_1 + (rd t427 x9_1))) (wrap64 (x9_1 + 1)) bt439.1 bt439.2.1 bt439.2.2.1 bt439.2.2.2.1 bt439.2.2.2.2.1 bt439.2.2.2.2.2.1 bt439.2.2.2.2.2.2.1 bt439.2.2.2.2.2.2.2))) = some true := H
             have A43 := Aside0.mk A430
             clear A430
             by_cases c44 : (!(t431 == t417) || (!(t432 == t418) || (!(t433 == t419) || (!(t434 == t420) || (!(t435 == t421) || (!(t436 == t422) || (!(t437 == t423) || (!(t438 == t424))))))))) = true
             ·rw [if_pos c44] at H
              have c44b0 : (!(t431 == t417) || (!(t432 == t418) || (!(t433 == t419) || (!(t434 == t420) || (!(t435 == t421) || (!(t436 == t422) || (!(t437 == t423) || (!(t438 == t424))))))))) = true := c44
              clear c44
              exact absurd H (by simp)
             ·rw [if_neg c44] at H
              have c44b0 : (!(t431 == t417) || (!(t432 == t418) || (!(t433 == t419) || (!(t434 == t420) || (!(t435 == t421) || (!(t436 == t422) || (!(t437 == t423) || (!(t438 == t424))))))))) = false := by simpa using c44
              clear c44
              replace H := Option.bind_eq_some_iff.mp H
              obtain ⟨⟨t439, t440, t441, t442, t443, t444, t445, t446⟩, A450, H⟩ := H
              replace H : (paybooklaw12_CycleLadder.l0 kj12 a0 (wrap64 (x8_1 + (rd t427 x9_1))) (wrap64 (x9_1 + 1)) t439 t440 t441 t442 t443 t444 t445 t446) = some true := H
              have A45 := Aside0.mk A450
              clear A450
              have H' := Aside0.mk H
              clear H
              have hnb46 := NB416_407.out
              have hnc46 := NB407_416.out
              have hcz47_0 : wc.cell? ⟨gb416, 0, none⟩ = some (.int .u8 t409) := (kC BK416.out 0).trans rfl
              have hcz47_1 : wc.cell? ⟨gb416, 1, none⟩ = some (.int .i64 t410) := (kC BK416.out 1).trans rfl
              have hcz47_2 : wc.cell? ⟨gb416, 2, none⟩ = some (.int .i64 t411) := (kC BK416.out 2).trans rfl
              have hcz47_3 : wc.cell? ⟨gb416, 3, none⟩ = some (.int .i64 t412) := (kC BK416.out 3).trans rfl
              have hcz47_4 : wc.cell? ⟨gb416, 4, none⟩ = some (.int .i64 t413) := (kC BK416.out 4).trans rfl
              have hcz47_5 : wc.cell? ⟨gb416, 5, none⟩ = some (.int .u8 t414) := (kC BK416.out 5).trans rfl
              have hfz47_0 := kF BK416.out 0
              have hfz47_1 := kF BK416.out 1
              have hfz47_2 := kF BK416.out 2
              have hfz47_3 := kF BK416.out 3
              have hfz47_4 := kF BK416.out 4
              have hfz47_5 := kF BK416.out 5
              have hcz48_0 : wc.cell? ⟨gb407, 0, none⟩ = some (.int .i64 x408000_1) := (kC BK407.out 0).trans rfl
              have hcz48_1 : wc.cell? ⟨gb407, 1, none⟩ = some (.int .i64 x408001_1) := (kC BK407.out 1).trans rfl
              have hcz48_2 : wc.cell? ⟨gb407, 2, none⟩ = some (.int .u8 x408002_1) := (kC BK407.out 2).trans rfl
              have hcz48_3 : wc.cell? ⟨gb407, 3, none⟩ = some (.int .i64 x408003_1) := (kC BK407.out 3).trans rfl
              have hcz48_4 : wc.cell? ⟨gb407, 4, none⟩ = some (.int .i64 x408004_1) := (kC BK407.out 4).trans rfl
              have hcz48_5 : wc.cell? ⟨gb407, 5, none⟩ = some (.int .i64 x408005_1) := (kC BK407.out 5).trans rfl
              have hcz48_6 : wc.cell? ⟨gb407, 6, none⟩ = some (.int .i64 x408006_1) := (kC BK407.out 6).trans rfl
              have hcz48_7 : wc.cell? ⟨gb407, 7, none⟩ = some (.bool x408007_1) := (kC BK407.out 7).trans rfl
              have hfz48_0 := kF BK407.out 0
              have hfz48_1 := kF BK407.out 1
              have hfz48_2 := kF BK407.out 2
              have hfz48_3 := kF BK407.out 3
              have hfz48_4 := kF BK407.out 4
              have hfz48_5 := kF BK407.out 5
              have hfz48_6 := kF BK407.out 6
              have hfz48_7 := kF BK407.out 7
              try go_wp2_with (first | ((with_reducible refine gate_callee (f := 18) rfl ?_); refine goesL_ (some 52) rfl rfl Tryd.func18 (by kernel_rfl) rfl #[.int .i64 0, .agg #[.int .i64 x408000_1, .int .i64 x408001_1, .int .u8 x408002_1, .int .i64 x408003_1, .int .i64 x408004_1, .int .i64 x408005_1, .int .i64 x408006_1, .bool x408007_1], .agg #[.int .u8 t409, .int .i64 t410, .int .i64 t411, .int .i64 t412, .int .i64 t413, .int .u8 2], .int .i64 x8_1, .bool false] rfl (by (try simp only [List.map_toArray, List.map_cons, List.map_nil]); first | done | rfl | (simp only [List.length_drop, List.length_take]; rfl)) ?_; (with_reducible refine (cycle_Hear.calls kj12 0 x408000_1 x408001_1 x408002_1 x408003_1 x408004_1 x408005_1 x408006_1 x408007_1 t409 t410 t411 t412 t413 2 x8_1 false t417 t418 t419 t420 t421 t422 t423 t424 t425 _ ?side1 A26.out).mono ?_); (case side1 => exact Kd.C_below HRG0.out (by repeat (first | (with_reducible first | exact HB.out | apply kL | apply kM | apply kE | refine kS ?_ GE407.out | refine kS ?_ GE416.out) | exact HB.out))); rintro e w49 ⟨rfl, hb⟩; refine ⟨_, rfl, ?_⟩; have n0_ := Aside0.mk (blk_below (g := gb407) (o := .cells #[.int .i64 x408000_1, .int .i64 x408001_1, .int .u8 x408002_1, .int .i64 x408003_1, .int .i64 x408004_1, .int .i64 x408005_1, .int .i64 x408006_1, .bool x408007_1] 25 (0, 0)) (by (with_reducible repeat (first | refine kN ?_ _ | refine kD ?_ | refine kA ?_ _)); refine kR ?_ NB407_416.out _; (with_reducible repeat (first | refine kN ?_ _ | refine kD ?_ | refine kA ?_ _)); exact BK407.out) hb); have n1_ := Aside0.mk (blk_below (g := gb416) (o := .cells #[.int .u8 t409, .int .i64 t410, .int .i64 t411, .int .i64 t412, .int .i64 t413, .int .u8 2] 28 (0, 0)) (by (with_reducible repeat (first | refine kN ?_ _ | refine kD ?_ | refine kA ?_ _)); refine kP (cs := #[.int .u8 t409, .int .i64 t410, .int .i64 t411, .int .i64 t412, .int .i64 t413, .int .u8 t414]) ?_ 5 _ rfl; (with_reducible repeat (first | refine kN ?_ _ | refine kD ?_ | refine kA ?_ _)); exact BK416.out) hb); have n2_ := Aside0.mk (below_step (by repeat (first | (with_reducible first | exact HB.out | apply kL | apply kM | apply kE | refine kS ?_ GE407.out | refine kS ?_ GE416.out) | exact HB.out)) hb); clear BK407; clear BK416; clear HB; have BK407 := n0_; have BK416 := n1_; have HB := n2_; clear n0_ n1_ n2_; (try clear hb); (try clear hb2); (try clear hk); (try clear hi); have hcz50_0 : w49.cell? ⟨gb407, 0, none⟩ = some (.int .i64 x408000_1) := (kC BK407.out 0).trans rfl; have hcz50_1 : w49.cell? ⟨gb407, 1, none⟩ = some (.int .i64 x408001_1) := (kC BK407.out 1).trans rfl; have hcz50_2 : w49.cell? ⟨gb407, 2, none⟩ = some (.int .u8 x408002_1) := (kC BK407.out 2).trans rfl; have hcz50_3 : w49.cell? ⟨gb407, 3, none⟩ = some (.int .i64 x408003_1) := (kC BK407.out 3).trans rfl; have hcz50_4 : w49.cell? ⟨gb407, 4, none⟩ = some (.int .i64 x408004_1) := (kC BK407.out 4).trans rfl; have hcz50_5 : w49.cell? ⟨gb407, 5, none⟩ = some (.int .i64 x408005_1) := (kC BK407.out 5).trans rfl; have hcz50_6 : w49.cell? ⟨gb407, 6, none⟩ = some (.int .i64 x408006_1) := (kC BK407.out 6).trans rfl; have hcz50_7 : w49.cell? ⟨gb407, 7, none⟩ = some (.bool x408007_1) := (kC BK407.out 7).trans rfl; have hfz50_0 := kF BK407.out 0; have hfz50_1 := kF BK407.out 1; have hfz50_2 := kF BK407.out 2; have hfz50_3 := kF BK407.out 3; have hfz50_4 := kF BK407.out 4; have hfz50_5 := kF BK407.out 5; have hfz50_6 := kF BK407.out 6; have hfz50_7 := kF BK407.out 7) | (go_at_call 25; (with_reducible refine (paybookref12_Steps.calls  t427 _ A38.out).mono ?_); rintro e w51 ⟨v428, rfl, ho0, hb⟩; have n0_ := Aside0.mk (Kd.R_lower ho0 (below_size (by repeat (first | (with_reducible first | exact HB.out | apply kL | apply kM | apply kE | refine kS ?_ GE407.out | refine kS ?_ GE416.out) | exact HB.out)))); have n1_ := Aside0.mk (blk_below (g := gb407) (o := .cells #[.int .i64 t417, .int .i64 t418, .int .u8 t419, .int .i64 t420, .int .i64 t421, .int .i64 t422, .int .i64 t423, .bool t424] 25 (0, 0)) (by (with_reducible repeat (first | refine kN ?_ _ | refine kD ?_ | refine kA ?_ _)); refine kP (cs := #[.int .i64 t417, .int .i64 t418, .int .u8 t419, .int .i64 t420, .int .i64 t421, .int .i64 t422, .int .i64 t423, .bool x408007_1]) ?_ 7 _ rfl; (with_reducible repeat (first | refine kN ?_ _ | refine kD ?_ | refine kA ?_ _)); refine kP (cs := #[.int .i64 t417, .int .i64 t418, .int .u8 t419, .int .i64 t420, .int .i64 t421, .int .i64 t422, .int .i64 x408006_1, .bool x408007_1]) ?_ 6 _ rfl; (with_reducible repeat (first | refine kN ?_ _ | refine kD ?_ | refine kA ?_ _)); refine kP (cs := #[.int .i64 t417, .int .i64 t418, .int .u8 t419, .int .i64 t420, .int .i64 t421, .int .i64 x408005_1, .int .i64 x408006_1, .bool x408007_1]) ?_ 5 _ rfl; (with_reducible repeat (first | refine kN ?_ _ | refine kD ?_ | refine kA ?_ _)); refine kP (cs := #[.int .i64 t417, .int .i64 t418, .int .u8 t419, .int .i64 t420, .int .i64 x408004_1, .int .i64 x408005_1, .int .i64 x408006_1, .bool x408007_1]) ?_ 4 _ rfl; (with_reducible repeat (first | refine kN ?_ _ | refine kD ?_ | refine kA ?_ _)); refine kP (cs := #[.int .i64 t417, .int .i64 t418, .int .u8 t419, .int .i64 x408003_1, .int .i64 x408004_1, .int .i64 x408005_1, .int .i64 x408006_1, .bool x408007_1]) ?_ 3 _ rfl; (with_reducible repeat (first | refine kN ?_ _ | refine kD ?_ | refine kA ?_ _)); refine kP (cs := #[.int .i64 t417, .int .i64 t418, .int .u8 x408002_1, .int .i64 x408003_1, .int .i64 x408004_1, .int .i64 x408005_1, .int .i64 x408006_1, .bool x408007_1]) ?_ 2 _ rfl; (with_reducible repeat (first | refine kN ?_ _ | refine kD ?_ | refine kA ?_ _)); refine kP (cs := #[.int .i64 t417, .int .i64 x408001_1, .int .u8 x408002_1, .int .i64 x408003_1, .int .i64 x408004_1, .int .i64 x408005_1, .int .i64 x408006_1, .bool x408007_1]) ?_ 1 _ rfl; (with_reducible repeat (first | refine kN ?_ _ | refine kD ?_ | refine kA ?_ _)); refine kP (cs := #[.int .i64 x408000_1, .int .i64 x408001_1, .int .u8 x408002_1, .int .i64 x408003_1, .int .i64 x408004_1, .int .i64 x408005_1, .int .i64 x408006_1, .bool x408007_1]) ?_ 0 _ rfl; (with_reducible repeat (first | refine kN ?_ _ | refine kD ?_ | refine kA ?_ _)); exact BK407.out) hb); have n2_ := Aside0.mk (blk_below (g := gb416) (o := .cells #[.int .u8 t409, .int .i64 t410, .int .i64 t411, .int .i64 t412, .int .i64 t413, .int .u8 2] 28 (0, 0)) (by (with_reducible repeat (first | refine kN ?_ _ | refine kD ?_ | refine kA ?_ _)); refine kR ?_ NB416_407.out _; (with_reducible repeat (first | refine kN ?_ _ | refine kD ?_ | refine kA ?_ _)); refine kR ?_ NB416_407.out _; (with_reducible repeat (first | refine kN ?_ _ | refine kD ?_ | refine kA ?_ _)); refine kR ?_ NB416_407.out _; (with_reducible repeat (first | refine kN ?_ _ | refine kD ?_ | refine kA ?_ _)); refine kR ?_ NB416_407.out _; (with_reducible repeat (first | refine kN ?_ _ | refine kD ?_ | refine kA ?_ _)); refine kR ?_ NB416_407.out _; (with_reducible repeat (first | refine kN ?_ _ | refine kD ?_ | refine kA ?_ _)); refine kR ?_ NB416_407.out _; (with_reducible repeat (first | refine kN ?_ _ | refine kD ?_ | refine kA ?_ _)); refine kR ?_ NB416_407.out _; (with_reducible repeat (first | refine kN ?_ _ | refine kD ?_ | refine kA ?_ _)); refine kR ?_ NB416_407.out _; (with_reducible repeat (first | refine kN ?_ _ | refine kD ?_ | refine kA ?_ _)); exact BK416.out) hb); have n3_ := Aside0.mk (below_step (by repeat (first | (with_reducible first | exact HB.out | apply kL | apply kM | apply kE | refine kS ?_ GE407.out | refine kS ?_ GE416.out) | exact HB.out)) hb); clear BK407; clear BK416; clear HB; have HO429 := n0_; have BK407 := n1_; have BK416 := n2_; have HB := n3_; clear n0_ n1_ n2_ n3_; (try clear hb); (try clear hb2); (try clear hk); (try clear hi); (try clear ho0)) | ((with_reducible refine gate_callee (f := 25) rfl ?_); refine goesL_ (some 58) rfl rfl Tryd.func25 (by kernel_rfl) rfl #[] rfl (by (try simp only [List.map_toArray, List.map_cons, List.map_nil]); first | done | rfl | (simp only [List.length_drop, List.length_take]; rfl)) ?_; (with_reducible refine (paybookref12_Steps.calls  t427 _ A38.out).mono ?_); rintro e w51 ⟨v428, rfl, ho0, hb⟩; refine ⟨_, rfl, ?_⟩; have n0_ := Aside0.mk (Kd.R_lower ho0 (below_size (by repeat (first | (with_reducible first | exact HB.out | apply kL | apply kM | apply kE | refine kS ?_ GE407.out | refine kS ?_ GE416.out) | exact HB.out)))); have n1_ := Aside0.mk (blk_below (g := gb407) (o := .cells #[.int .i64 t417, .int .i64 t418, .int .u8 t419, .int .i64 t420, .int .i64 t421, .int .i64 t422, .int .i64 t423, .bool t424] 25 (0, 0)) (by (with_reducible repeat (first | refine kN ?_ _ | refine kD ?_ | refine kA ?_ _)); refine kP (cs := #[.int .i64 t417, .int .i64 t418, .int .u8 t419, .int .i64 t420, .int .i64 t421, .int .i64 t422, .int .i64 t423, .bool x408007_1]) ?_ 7 _ rfl; (with_reducible repeat (first | refine kN ?_ _ | refine kD ?_ | refine kA ?_ _)); refine kP (cs := #[.int .i64 t417, .int .i64 t418, .int .u8 t419, .int .i64 t420, .int .i64 t421, .int .i64 t422, .int .i64 x408006_1, .bool x408007_1]) ?_ 6 _ rfl; (with_reducible repeat (first | refine kN ?_ _ | refine kD ?_ | refine kA ?_ _)); refine kP (cs := #[.int .i64 t417, .int .i64 t418, .int .u8 t419, .int .i64 t420, .int .i64 t421, .int .i64 x408005_1, .int .i64 x408006_1, .bool x408007_1]) ?_ 5 _ rfl; (with_reducible repeat (first | refine kN ?_ _ | refine kD ?_ | refine kA ?_ _)); refine kP (cs := #[.int .i64 t417, .int .i64 t418, .int .u8 t419, .int .i64 t420, .int .i64 x408004_1, .int .i64 x408005_1, .int .i64 x408006_1, .bool x408007_1]) ?_ 4 _ rfl; (with_reducible repeat (first | refine kN ?_ _ | refine kD ?_ | refine kA ?_ _)); refine kP (cs := #[.int .i64 t417, .int .i64 t418, .int .u8 t419, .int .i64 x408003_1, .int .i64 x408004_1, .int .i64 x408005_1, .int .i64 x408006_1, .bool x408007_1]) ?_ 3 _ rfl; (with_reducible repeat (first | refine kN ?_ _ | refine kD ?_ | refine kA ?_ _)); refine kP (cs := #[.int .i64 t417, .int .i64 t418, .int .u8 x408002_1, .int .i64 x408003_1, .int .i64 x408004_1, .int .i64 x408005_1, .int .i64 x408006_1, .bool x408007_1]) ?_ 2 _ rfl; (with_reducible repeat (first | refine kN ?_ _ | refine kD ?_ | refine kA ?_ _)); refine kP (cs := #[.int .i64 t417, .int .i64 x408001_1, .int .u8 x408002_1, .int .i64 x408003_1, .int .i64 x408004_1, .int .i64 x408005_1, .int .i64 x408006_1, .bool x408007_1]) ?_ 1 _ rfl; (with_reducible repeat (first | refine kN ?_ _ | refine kD ?_ | refine kA ?_ _)); refine kP (cs := #[.int .i64 x408000_1, .int .i64 x408001_1, .int .u8 x408002_1, .int .i64 x408003_1, .int .i64 x408004_1, .int .i64 x408005_1, .int .i64 x408006_1, .bool x408007_1]) ?_ 0 _ rfl; (with_reducible repeat (first | refine kN ?_ _ | refine kD ?_ | refine kA ?_ _)); exact BK407.out) hb); have n2_ := Aside0.mk (blk_below (g := gb416) (o := .cells #[.int .u8 t409, .int .i64 t410, .int .i64 t411, .int .i64 t412, .int .i64 t413, .int .u8 2] 28 (0, 0)) (by (with_reducible repeat (first | refine kN ?_ _ | refine kD ?_ | refine kA ?_ _)); refine kR ?_ NB416_407.out _; (with_reducible repeat (first | refine kN ?_ _ | refine kD ?_ | refine kA ?_ _)); refine kR ?_ NB416_407.out _; (with_reducible repeat (first | refine kN ?_ _ | refine kD ?_ | refine kA ?_ _)); refine kR ?_ NB416_407.out _; (with_reducible repeat (first | refine kN ?_ _ | refine kD ?_ | refine kA ?_ _)); refine kR ?_ NB416_407.out _; (with_reducible repeat (first | refine kN ?_ _ | refine kD ?_ | refine kA ?_ _)); refine kR ?_ NB416_407.out _; (with_reducible repeat (first | refine kN ?_ _ | refine kD ?_ | refine kA ?_ _)); refine kR ?_ NB416_407.out _; (with_reducible repeat (first | refine kN ?_ _ | refine kD ?_ | refine kA ?_ _)); refine kR ?_ NB416_407.out _; (with_reducible repeat (first | refine kN ?_ _ | refine kD ?_ | refine kA ?_ _)); refine kR ?_ NB416_407.out _; (with_reducible repeat (first | refine kN ?_ _ | refine kD ?_ | refine kA ?_ _)); exact BK416.out) hb); have n3_ := Aside0.mk (below_step (by repeat (first | (with_reducible first | exact HB.out | apply kL | apply kM | apply kE | refine kS ?_ GE407.out | refine kS ?_ GE416.out) | exact HB.out)) hb); clear BK407; clear BK416; clear HB; have HO429 := n0_; have BK407 := n1_; have BK416 := n2_; have HB := n3_; clear n0_ n1_ n2_ n3_; (try clear hb); (try clear hb2); (try clear hk); (try clear hi); (try clear ho0); obtain ⟨Ao52, co52, eo52⟩ := Kd.R_slice HO429.out; subst eo52; have p430 : 0 ≤ (x9_1 : Int) := of_decide_eq_true (by first | (with_reducible assumption) | assumption); have q430 : x9_1 < (t427.length : Int) := of_decide_eq_true (by first | (with_reducible assumption) | assumption); obtain ⟨ad430, e430, hx430_0⟩ := Kd.at_int (Kd.R_reads' HO429.out).2.2 x9_1 p430 q430; cases e430; replace p430 := eq_true p430; replace q430 := eq_true q430))
              have n0_ := Aside0.mk (Kd.R_drew HO429.out)
              have n1_ := Aside0.mk (kD BK407.out)
              have n2_ := Aside0.mk (kD BK416.out)
              have n3_ := Aside0.mk (kE HB.out)
              clear HO429
              clear BK407
              clear BK416
              clear HB
              have HO429 := n0_
              have BK407 := n1_
              have BK416 := n2_
              have HB := n3_
              clear n0_ n1_ n2_ n3_
              refine start_ (n := 17) (S := fun w' => w'.cell? ⟨gb407, 0, none⟩ = some (.int .i64 t417) ∧ w'.cell? ⟨gb407, 1, none⟩ = some (.int .i64 t418) ∧ w'.cell? ⟨gb407, 2, none⟩ = some (.int .u8 t419) ∧ w'.cell? ⟨gb407, 3, none⟩ = some (.int .i64 t420) ∧ w'.cell? ⟨gb407, 4, none⟩ = some (.int .i64 t421) ∧ w'.cell? ⟨gb407, 5, none⟩ = some (.int .i64 t422) ∧ w'.cell? ⟨gb407, 6, none⟩ = some (.int .i64 t423) ∧ w'.cell? ⟨gb407, 7, none⟩ = some (.bool t424)) (ds := []) #[F,F,F,F,F,F,F,F,F,F,F,F,F,F,F,F,F] (by kernel_rfl) rfl rfl ⟨(kC BK407.out 0).trans rfl, (kC BK407.out 1).trans rfl, (kC BK407.out 2).trans rfl, (kC BK407.out 3).trans rfl, (kC BK407.out 4).trans rfl, (kC BK407.out 5).trans rfl, (kC BK407.out 6).trans rfl, (kC BK407.out 7).trans rfl⟩ (fun hHeld => ?_); refine with_tabW paybooklaw12_CycleLadder.tab15 paybooklaw12_CycleLadder.bits15 (fun HT_ HW_ => ?_)
              generalize w51.drew = w53 at HO429 BK407 BK416 HB hHeld ⊢
              refine pure_ (i := 0) (N := some 63) (v := ?_) (a' := ?_) #[T,F,F,F,F,F,F,F,F,F,F,F,F,F,F,F,F] rfl rfl (any_of HT_.out (by kernel_rfl)) (fun _ _ _ h => h) (Or.inl ⟨by rfl, ?_⟩) ?_ ?_
              rotate_left
              ·intro w'
               go_simp
               with_reducible rfl
              rotate_left
              ·simp only [Act.put, List.setIfInBounds_toArray, List.set_cons_zero, List.set_cons_succ, i64_w, i32_w]
               rfl
              refine take_ (i := 1) (N := some 64) (v := ?_) (a' := ?_) #[T,T,F,F,F,F,F,F,F,F,F,F,F,F,F,F,F] rfl rfl (take_ofW HT_.out HW_.out (by kernel_rfl)) (fun _ _ _ h => h) (Or.inl ⟨by rfl, ?_⟩) hHeld ?_ ?_
              rotate_left
              ·rintro w' ⟨s0, s1, s2, s3, s4, s5, s6, s7⟩
               go_simp
               with_reducible rfl
              rotate_left
              ·simp only [Act.put, List.setIfInBounds_toArray, List.set_cons_zero, List.set_cons_succ, i64_w, i32_w]
               rfl
              refine pure_ (i := 2) (N := some 65) (v := ?_) (a' := ?_) #[T,T,T,F,F,F,F,F,F,F,F,F,F,F,F,F,F] rfl rfl (any_of HT_.out (by kernel_rfl)) (fun _ _ _ h => h) (Or.inl ⟨by rfl, ?_⟩) ?_ ?_
              rotate_left
              ·intro w'
               go_simp
               with_reducible rfl
              rotate_left
              ·simp only [Act.put, List.setIfInBounds_toArray, List.set_cons_zero, List.set_cons_succ, i64_w, i32_w]
               rfl
              refine pure_ (i := 3) (N := some 66) (v := ?_) (a' := ?_) #[T,T,T,T,F,F,F,F,F,F,F,F,F,F,F,F,F] rfl rfl (any_of HT_.out (by kernel_rfl)) (fun _ _ _ h => h) (Or.inl ⟨by rfl, ?_⟩) ?_ ?_
              rotate_left
              ·intro w'
               go_simp
               with_reducible rfl
              rotate_left
              ·simp only [Act.put, List.setIfInBounds_toArray, List.set_cons_zero, List.set_cons_succ, i64_w, i32_w]
               rfl
              refine pure_ (i := 4) (N := some 67) (v := ?_) (a' := ?_) #[T,T,T,T,T,F,F,F,F,F,F,F,F,F,F,F,F] rfl rfl (any_of HT_.out (by kernel_rfl)) (fun _ _ _ h => h) (Or.inl ⟨by rfl, ?_⟩) ?_ ?_
              rotate_left
              ·intro w'
               go_simp
               with_reducible rfl
              rotate_left
              ·simp only [Act.put, List.setIfInBounds_toArray, List.set_cons_zero, List.set_cons_succ, i64_w, i32_w]
               rfl
              refine pure_ (i := 6) (N := some 69) (v := ?_) (a' := ?_) #[T,T,T,T,T,F,T,F,F,F,F,F,F,F,F,F,F] rfl rfl (any_of HT_.out (by kernel_rfl)) (fun _ _ _ h => h) (Or.inl ⟨by rfl, ?_⟩) ?_ ?_
              rotate_left
              ·intro w'
               go_simp
               with_reducible rfl
              rotate_left
              ·simp only [Act.put, List.setIfInBounds_toArray, List.set_cons_zero, List.set_cons_succ, i64_w, i32_w]
               rfl
              refine take_ (i := 5) (N := some 68) (v := ?_) (a' := ?_) #[T,T,T,T,T,T,T,F,F,F,F,F,F,F,F,F,F] rfl rfl (take_ofW HT_.out HW_.out (by kernel_rfl)) (fun _ _ _ h => h) (Or.inl ⟨by rfl, ?_⟩) hHeld ?_ ?_
              rotate_left
              ·rintro w' ⟨s0, s1, s2, s3, s4, s5, s6, s7⟩
               go_simp
               with_reducible rfl
              rotate_left
              ·simp only [Act.put, List.setIfInBounds_toArray, List.set_cons_zero, List.set_cons_succ, i64_w, i32_w]
               rfl
              refine pure_ (i := 7) (N := some 70) (v := ?_) (a' := ?_) #[T,T,T,T,T,T,T,T,F,F,F,F,F,F,F,F,F] rfl rfl (any_of HT_.out (by kernel_rfl)) (fun _ _ _ h => h) (Or.inl ⟨by rfl, ?_⟩) ?_ ?_
              rotate_left
              ·intro w'
               go_simp
               with_reducible rfl
              rotate_left
              ·simp only [Act.put, List.setIfInBounds_toArray, List.set_cons_zero, List.set_cons_succ, i64_w, i32_w]
               rfl
              refine pure_ (i := 8) (N := some 71) (v := ?_) (a' := ?_) #[T,T,T,T,T,T,T,T,T,F,F,F,F,F,F,F,F] rfl rfl (any_of HT_.out (by kernel_rfl)) (fun _ _ _ h => h) (Or.inl ⟨by rfl, ?_⟩) ?_ ?_
              rotate_left
              ·intro w'
               go_simp
               with_reducible rfl
              rotate_left
              ·simp only [Act.put, List.setIfInBounds_toArray, List.set_cons_zero, List.set_cons_succ, i64_w, i32_w]
               rfl
              refine pure_ (i := 9) (N := some 72) (v := ?_) (a' := ?_) #[T,T,T,T,T,T,T,T,T,T,F,F,F,F,F,F,F] rfl rfl (any_of HT_.out (by kernel_rfl)) (fun _ _ _ h => h) (Or.inl ⟨by rfl, ?_⟩) ?_ ?_
              rotate_left
              ·intro w'
               go_simp
               with_reducible rfl
              rotate_left
              ·simp only [Act.put, List.setIfInBounds_toArray, List.set_cons_zero, List.set_cons_succ, i64_w, i32_w]
               rfl
              refine pure_ (i := 11) (N := some 74) (v := ?_) (a' := ?_) #[T,T,T,T,T,T,T,T,T,T,F,T,F,F,F,F,F] rfl rfl (any_of HT_.out (by kernel_rfl)) (fun _ _ _ h => h) (Or.inl ⟨by rfl, ?_⟩) ?_ ?_
              rotate_left
              ·intro w'
               go_simp
               with_reducible rfl
              rotate_left
              ·simp only [Act.put, List.setIfInBounds_toArray, List.set_cons_zero, List.set_cons_succ, i64_w, i32_w]
               rfl
              refine pure_ (i := 12) (N := some 75) (v := ?_) (a' := ?_) #[T,T,T,T,T,T,T,T,T,T,F,T,T,F,F,F,F] rfl rfl (any_of HT_.out (by kernel_rfl)) (fun _ _ _ h => h) (Or.inl ⟨by rfl, ?_⟩) ?_ ?_
              rotate_left
              ·intro w'
               go_simp
               with_reducible rfl
              rotate_left
              ·simp only [Act.put, List.setIfInBounds_toArray, List.set_cons_zero, List.set_cons_succ, i64_w, i32_w]
               rfl
              refine take_ (i := 10) (N := some 73) (v := ?_) (a' := ?_) #[T,T,T,T,T,T,T,T,T,T,T,T,T,F,F,F,F] rfl rfl (take_ofW HT_.out HW_.out (by kernel_rfl)) (fun _ _ _ h => h) (Or.inl ⟨by rfl, ?_⟩) hHeld ?_ ?_
              rotate_left
              ·rintro w' ⟨s0, s1, s2, s3, s4, s5, s6, s7⟩
               go_simp
               with_reducible rfl
              rotate_left
              ·simp only [Act.put, List.setIfInBounds_toArray, List.set_cons_zero, List.set_cons_succ, i64_w, i32_w]
               rfl
              refine take_ (i := 14) (N := some 77) (v := ?_) (a' := ?_) #[T,T,T,T,T,T,T,T,T,T,T,T,T,F,T,F,F] rfl rfl (take_ofW HT_.out HW_.out (by kernel_rfl)) (fun _ _ _ h => h) (Or.inl ⟨by rfl, ?_⟩) hHeld ?_ ?_
              rotate_left
              ·rintro w' ⟨s0, s1, s2, s3, s4, s5, s6, s7⟩
               go_simp
               with_reducible rfl
              rotate_left
              ·simp only [Act.put, List.setIfInBounds_toArray, List.set_cons_zero, List.set_cons_succ, i64_w, i32_w]
               rfl
              refine one_ (i := 13) (N := some 76) #[T,T,T,T,T,T,T,T,T,T,T,T,T,T,T,F,F] rfl rfl (one_of HT_.out (by kernel_rfl)) (by decide) (fun K hK => ?_)
              refine goes_ Tryd.func26 (by kernel_rfl) rfl #[.agg #[.int .i64 t417, .int .i64 t418, .int .u8 t419, .int .i64 t420, .int .i64 t421, .int .i64 t422, .int .i64 t423, .bool t424], .int .i64 (wrap64 ((wrap64 (x8_1 + (rd t427 x9_1))) - 1))] (by rfl) rfl rfl (by (try simp only [List.map_toArray, List.map_cons, List.map_nil]); first | done | rfl | (simp only [List.length_drop, List.length_take]; rfl)) ?_
              with_reducible refine (cycle_Wake.calls t417 t418 t419 t420 t421 t422 t423 t424 (wrap64 ((wrap64 (x8_1 + (rd t427 x9_1))) - 1)) t431 t432 t433 t434 t435 t436 t437 t438 _ A43.out).mono ?_
              rintro e w54 ⟨rfl, hb⟩
              refine ⟨_, rfl, ?_⟩
              have n0_ := Aside0.mk (Kd.R_below (by (with_reducible repeat (first | apply Kd.R_alloc | apply Kd.R_drewN | apply Kd.R_drew)); exact HO429.out) hb)
              have n1_ := Aside0.mk (blk_below (g := gb407) (o := .cells #[.int .i64 t417, .int .i64 t418, .int .u8 t419, .int .i64 t420, .int .i64 t421, .int .i64 t422, .int .i64 t423, .bool t424] 25 (0, 0)) (by (with_reducible repeat (first | refine kN ?_ _ | refine kD ?_ | refine kA ?_ _)); exact BK407.out) hb)
              have n2_ := Aside0.mk (blk_below (g := gb416) (o := .cells #[.int .u8 t409, .int .i64 t410, .int .i64 t411, .int .i64 t412, .int .i64 t413, .int .u8 2] 28 (0, 0)) (by (with_reducible repeat (first | refine kN ?_ _ | refine kD ?_ | refine kA ?_ _)); exact BK416.out) hb)
              have n3_ := Aside0.mk (below_step (by repeat (first | (with_reducible first | exact HB.out | apply kL | apply kM | apply kE | refine kS ?_ GE407.out | refine kS ?_ GE416.out) | exact HB.out)) hb)
              clear HO429
              clear BK407
              clear BK416
              clear HB
              have HO429 := n0_
              have BK407 := n1_
              have BK416 := n2_
              have HB := n3_
              clear n0_ n1_ n2_ n3_
              (try clear hb)
              (try clear hb2)
              (try clear hk)
              (try clear hi)
              refine hK.out _ _ ⟨(kC BK407.out 0).trans rfl, (kC BK407.out 1).trans rfl, (kC BK407.out 2).trans rfl, (kC BK407.out 3).trans rfl, (kC BK407.out 4).trans rfl, (kC BK407.out 5).trans rfl, (kC BK407.out 6).trans rfl, (kC BK407.out 7).trans rfl⟩ (fun hHeld => ?_)
              clear hK K
              refine norm_ (a' := ?_) ?_ ?_
              rotate_left
              ·show Act.put _ (some 76) _ = _
               simp only [Act.put, List.setIfInBounds_toArray, List.set_cons_zero, List.set_cons_succ, i64_w, i32_w]
               rfl
              refine pure_ (i := 15) (N := some 78) (v := ?_) (a' := ?_) #[T,T,T,T,T,T,T,T,T,T,T,T,T,T,T,T,F] rfl rfl (any_of HT_.out (by kernel_rfl)) (fun _ _ _ h => h) (Or.inl ⟨by rfl, ?_⟩) ?_ ?_
              rotate_left
              ·intro w'
               go_simp
               with_reducible rfl
              rotate_left
              ·simp only [Act.put, List.setIfInBounds_toArray, List.set_cons_zero, List.set_cons_succ, i64_w, i32_w]
               rfl
              refine pure_ (i := 16) (N := some 79) (v := ?_) (a' := ?_) #[T,T,T,T,T,T,T,T,T,T,T,T,T,T,T,T,T] rfl rfl (any_of HT_.out (by kernel_rfl)) (fun _ _ _ h => h) (Or.inl ⟨by rfl, ?_⟩) ?_ ?_
              rotate_left
              ·intro w'
               go_simp
               with_reducible rfl
              rotate_left
              ·simp only [Act.put, List.setIfInBounds_toArray, List.set_cons_zero, List.set_cons_succ, i64_w, i32_w]
               rfl
              refine done_ (done_of HT_.out (by kernel_rfl)) ?_
              have hcz55_0 : w54.cell? ⟨gb407, 0, none⟩ = some (.int .i64 t417) := (kC BK407.out 0).trans rfl
              have hcz55_1 : w54.cell? ⟨gb407, 1, none⟩ = some (.int .i64 t418) := (kC BK407.out 1).trans rfl
              have hcz55_2 : w54.cell? ⟨gb407, 2, none⟩ = some (.int .u8 t419) := (kC BK407.out 2).trans rfl
              have hcz55_3 : w54.cell? ⟨gb407, 3, none⟩ = some (.int .i64 t420) := (kC BK407.out 3).trans rfl
              have hcz55_4 : w54.cell? ⟨gb407, 4, none⟩ = some (.int .i64 t421) := (kC BK407.out 4).trans rfl
              have hcz55_5 : w54.cell? ⟨gb407, 5, none⟩ = some (.int .i64 t422) := (kC BK407.out 5).trans rfl
              have hcz55_6 : w54.cell? ⟨gb407, 6, none⟩ = some (.int .i64 t423) := (kC BK407.out 6).trans rfl
              have hcz55_7 : w54.cell? ⟨gb407, 7, none⟩ = some (.bool t424) := (kC BK407.out 7).trans rfl
              have hfz55_0 := kF BK407.out 0
              have hfz55_1 := kF BK407.out 1
              have hfz55_2 := kF BK407.out 2
              have hfz55_3 := kF BK407.out 3
              have hfz55_4 := kF BK407.out 4
              have hfz55_5 := kF BK407.out 5
              have hfz55_6 := kF BK407.out 6
              have hfz55_7 := kF BK407.out 7
              try go_wp2_with (first | ((with_reducible refine gate_callee (f := 26) rfl ?_); refine goesL_ (some 83) rfl rfl Tryd.func26 (by kernel_rfl) rfl #[.agg #[.int .i64 t417, .int .i64 t418, .int .u8 t419, .int .i64 t420, .int .i64 t421, .int .i64 t422, .int .i64 t423, .bool t424], .int .i64 (wrap64 (x8_1 + (rd t427 x9_1)))] rfl (by (try simp only [List.map_toArray, List.map_cons, List.map_nil]); first | done | rfl | (simp only [List.length_drop, List.length_take]; rfl)) ?_; (with_reducible refine (cycle_Wake.calls t417 t418 t419 t420 t421 t422 t423 t424 (wrap64 (x8_1 + (rd t427 x9_1))) t439 t440 t441 t442 t443 t444 t445 t446 _ A45.out).mono ?_); rintro e w56 ⟨rfl, hb⟩; refine ⟨_, rfl, ?_⟩; have n0_ := Aside0.mk (Kd.R_below (by (with_reducible repeat (first | apply Kd.R_alloc | apply Kd.R_drewN | apply Kd.R_drew)); exact HO429.out) hb); have n1_ := Aside0.mk (blk_below (g := gb407) (o := .cells #[.int .i64 t417, .int .i64 t418, .int .u8 t419, .int .i64 t420, .int .i64 t421, .int .i64 t422, .int .i64 t423, .bool t424] 25 (0, 0)) (by (with_reducible repeat (first | refine kN ?_ _ | refine kD ?_ | refine kA ?_ _)); exact BK407.out) hb); have n2_ := Aside0.mk (blk_below (g := gb416) (o := .cells #[.int .u8 t409, .int .i64 t410, .int .i64 t411, .int .i64 t412, .int .i64 t413, .int .u8 2] 28 (0, 0)) (by (with_reducible repeat (first | refine kN ?_ _ | refine kD ?_ | refine kA ?_ _)); exact BK416.out) hb); have n3_ := Aside0.mk (below_step (by repeat (first | (with_reducible first | exact HB.out | apply kL | apply kM | apply kE | refine kS ?_ GE407.out | refine kS ?_ GE416.out) | exact HB.out)) hb); clear HO429; clear BK407; clear BK416; clear HB; have HO429 := n0_; have BK407 := n1_; have BK416 := n2_; have HB := n3_; clear n0_ n1_ n2_ n3_; (try clear hb); (try clear hb2); (try clear hk); (try clear hi); have hcz57_0 : w56.cell? ⟨gb407, 0, none⟩ = some (.int .i64 t417) := (kC BK407.out 0).trans rfl; have hcz57_1 : w56.cell? ⟨gb407, 1, none⟩ = some (.int .i64 t418) := (kC BK407.out 1).trans rfl; have hcz57_2 : w56.cell? ⟨gb407, 2, none⟩ = some (.int .u8 t419) := (kC BK407.out 2).trans rfl; have hcz57_3 : w56.cell? ⟨gb407, 3, none⟩ = some (.int .i64 t420) := (kC BK407.out 3).trans rfl; have hcz57_4 : w56.cell? ⟨gb407, 4, none⟩ = some (.int .i64 t421) := (kC BK407.out 4).trans rfl; have hcz57_5 : w56.cell? ⟨gb407, 5, none⟩ = some (.int .i64 t422) := (kC BK407.out 5).trans rfl; have hcz57_6 : w56.cell? ⟨gb407, 6, none⟩ = some (.int .i64 t423) := (kC BK407.out 6).trans rfl; have hcz57_7 : w56.cell? ⟨gb407, 7, none⟩ = some (.bool t424) := (kC BK407.out 7).trans rfl; have hfz57_0 := kF BK407.out 0; have hfz57_1 := kF BK407.out 1; have hfz57_2 := kF BK407.out 2; have hfz57_3 := kF BK407.out 3; have hfz57_4 := kF BK407.out 4; have hfz57_5 := kF BK407.out 5; have hfz57_6 := kF BK407.out 6; have hfz57_7 := kF BK407.out 7))
              go_roundg kj12
              case measure => have := HK1.out; have := HJ12.out; omega
              case rel => exact ⟨(wrap64 (x8_1 + (rd t427 x9_1))), (wrap64 (x9_1 + 1)), (t439), (t440), (t441), (t442), (t443), (t444), (t445), (t446), (by first | rfl | (simp; done) | (simp [*]; done)), (by first | rfl | (simp; done) | (simp [*]; done)), H', ⟨by have := HK1.out; have := HJ12.out; omega⟩, ⟨by (with_reducible repeat (first | refine kN ?_ _ | refine kD ?_ | refine kA ?_ _)); refine kP (cs := #[.int .i64 t439, .int .i64 t440, .int .u8 t441, .int .i64 t442, .int .i64 t443, .int .i64 t444, .int .i64 t445, .bool t424]) ?_ 7 _ rfl; (with_reducible repeat (first | refine kN ?_ _ | refine kD ?_ | refine kA ?_ _)); refine kP (cs := #[.int .i64 t439, .int .i64 t440, .int .u8 t441, .int .i64 t442, .int .i64 t443, .int .i64 t444, .int .i64 t423, .bool t424]) ?_ 6 _ rfl; (with_reducible repeat (first | refine kN ?_ _ | refine kD ?_ | refine kA ?_ _)); refine kP (cs := #[.int .i64 t439, .int .i64 t440, .int .u8 t441, .int .i64 t442, .int .i64 t443, .int .i64 t422, .int .i64 t423, .bool t424]) ?_ 5 _ rfl; (with_reducible repeat (first | refine kN ?_ _ | refine kD ?_ | refine kA ?_ _)); refine kP (cs := #[.int .i64 t439, .int .i64 t440, .int .u8 t441, .int .i64 t442, .int .i64 t421, .int .i64 t422, .int .i64 t423, .bool t424]) ?_ 4 _ rfl; (with_reducible repeat (first | refine kN ?_ _ | refine kD ?_ | refine kA ?_ _)); refine kP (cs := #[.int .i64 t439, .int .i64 t440, .int .u8 t441, .int .i64 t420, .int .i64 t421, .int .i64 t422, .int .i64 t423, .bool t424]) ?_ 3 _ rfl; (with_reducible repeat (first | refine kN ?_ _ | refine kD ?_ | refine kA ?_ _)); refine kP (cs := #[.int .i64 t439, .int .i64 t440, .int .u8 t419, .int .i64 t420, .int .i64 t421, .int .i64 t422, .int .i64 t423, .bool t424]) ?_ 2 _ rfl; (with_reducible repeat (first | refine kN ?_ _ | refine kD ?_ | refine kA ?_ _)); refine kP (cs := #[.int .i64 t439, .int .i64 t418, .int .u8 t419, .int .i64 t420, .int .i64 t421, .int .i64 t422, .int .i64 t423, .bool t424]) ?_ 1 _ rfl; (with_reducible repeat (first | refine kN ?_ _ | refine kD ?_ | refine kA ?_ _)); refine kP (cs := #[.int .i64 t417, .int .i64 t418, .int .u8 t419, .int .i64 t420, .int .i64 t421, .int .i64 t422, .int .i64 t423, .bool t424]) ?_ 0 _ rfl; (with_reducible repeat (first | refine kN ?_ _ | refine kD ?_ | refine kA ?_ _)); exact BK407.out⟩, ⟨by repeat (first | (with_reducible first | exact HB.out | apply kL | apply kM | apply kE | refine kS ?_ GE407.out | refine kS ?_ GE416.out) | exact HB.out)⟩⟩
            ·rw [if_neg c42] at H
             have c42b0 : (t423 == (wrap64 (x8_1 + (rd t427 x9_1)))) = false := beq_eq_false_iff_ne.mpr c42
             have c42b1 : (t423 != (wrap64 (x8_1 + (rd t427 x9_1)))) = true := bne_iff_ne.mpr c42
             exact absurd H (by simp)
           ·rw [if_neg c41] at H
            have c41b0 : (t419 == 2) = false := beq_eq_false_iff_ne.mpr c41
            have c41b1 : (t419 != 2) = true := bne_iff_ne.mpr c41
            exact absurd H (by simp)
          ·rw [if_neg c40] at H
           exact absurd H (by simp)
         ·rw [if_neg c39] at H
          exact absurd H (by simp)
    ·rw [if_neg c11] at H
     have c11b0 : decide (x9_1 < 4) = false := decide_eq_false c11
     clear c11
     replace H := Option.bind_eq_some_iff.mp H
     obtain ⟨t408, A580, H⟩ := H
     replace H : (if t408 = true then (if x408002_1 = 8 then (some (x8_1 == (wrap64 ((wrap64 (a0)) + 11)))) else (some false)) else (some false)) = some true := H
     have A58 := Aside0.mk A580
     clear A580
     by_cases c59 : t408 = true
     ·subst c59
      have H1 : (if x408002_1 = 8 then (some (x8_1 == (wrap64 ((wrap64 (a0)) + 11)))) else (some false)) = some true := by rw [if_pos rfl] at H; try exact H
      clear H
      have H := H1
      clear H1
      by_cases c60 : x408002_1 = 8
      ·rw [if_pos c60] at H
       have c60b0 : (x408002_1 == 8) = true := beq_iff_eq.mpr c60
       have c60b1 : (x408002_1 != 8) = false := bne_eq_false_iff_eq.mpr c60
       clear c60
       have HT_ := Option.some.inj H
       clear H
       (try (have HT_z_ := HT_; simp only [beq_true, beq_false, true_beq, false_beq, Bool.not_eq_true', Bool.not_eq_false', Bool.not_true, Bool.not_false] at HT_z_))
       go_wp2_with (first | (go_at_call 15; (with_reducible refine (paybooklaw12_awake.calls k1  true _ ?side1 A58.out).mono ?_); (case side1 => repeat (first | exact (Kd.C_below HRG0.out HB.out) | exact HRG0.out | (with_reducible refine Kd.C_alloc ?_ _) | (with_reducible refine Kd.C_drewN ?_ _) | (with_reducible refine Kd.C_drew ?_))); rintro e w61 ⟨rfl, hb⟩; have n0_ := Aside0.mk (blk_below (g := gb407) (o := .cells #[.int .i64 x408000_1, .int .i64 x408001_1, .int .u8 x408002_1, .int .i64 x408003_1, .int .i64 x408004_1, .int .i64 x408005_1, .int .i64 x408006_1, .bool x408007_1] 25 (0, 0)) (by (with_reducible repeat (first | refine kN ?_ _ | refine kD ?_ | refine kA ?_ _)); exact BK407.out) hb); have n1_ := Aside0.mk (below_step (by repeat (first | (with_reducible first | exact HB.out | apply kL | apply kM | apply kE | refine kS ?_ GE407.out) | exact HB.out)) hb); clear BK407; clear HB; have BK407 := n0_; have HB := n1_; clear n0_ n1_; (try clear hb); (try clear hb2); (try clear hk); (try clear hi)) | ((with_reducible refine gate_callee (f := 15) rfl ?_); refine goesL_ (some 84) rfl rfl Tryd.func15 (by kernel_rfl) rfl #[] rfl (by (try simp only [List.map_toArray, List.map_cons, List.map_nil]); first | done | rfl | (simp only [List.length_drop, List.length_take]; rfl)) ?_; (with_reducible refine (paybooklaw12_awake.calls k1  true _ ?side1 A58.out).mono ?_); (case side1 => repeat (first | exact (Kd.C_below HRG0.out HB.out) | exact HRG0.out | (with_reducible refine Kd.C_alloc ?_ _) | (with_reducible refine Kd.C_drewN ?_ _) | (with_reducible refine Kd.C_drew ?_))); rintro e w61 ⟨rfl, hb⟩; refine ⟨_, rfl, ?_⟩; have n0_ := Aside0.mk (blk_below (g := gb407) (o := .cells #[.int .i64 x408000_1, .int .i64 x408001_1, .int .u8 x408002_1, .int .i64 x408003_1, .int .i64 x408004_1, .int .i64 x408005_1, .int .i64 x408006_1, .bool x408007_1] 25 (0, 0)) (by (with_reducible repeat (first | refine kN ?_ _ | refine kD ?_ | refine kA ?_ _)); exact BK407.out) hb); have n1_ := Aside0.mk (below_step (by repeat (first | (with_reducible first | exact HB.out | apply kL | apply kM | apply kE | refine kS ?_ GE407.out) | exact HB.out)) hb); clear BK407; clear HB; have BK407 := n0_; have HB := n1_; clear n0_ n1_; (try clear hb); (try clear hb2); (try clear hk); (try clear hi); have hcz62_0 : w61.cell? ⟨gb407, 0, none⟩ = some (.int .i64 x408000_1) := (kC BK407.out 0).trans rfl; have hcz62_1 : w61.cell? ⟨gb407, 1, none⟩ = some (.int .i64 x408001_1) := (kC BK407.out 1).trans rfl; have hcz62_2 : w61.cell? ⟨gb407, 2, none⟩ = some (.int .u8 x408002_1) := (kC BK407.out 2).trans rfl; have hcz62_3 : w61.cell? ⟨gb407, 3, none⟩ = some (.int .i64 x408003_1) := (kC BK407.out 3).trans rfl; have hcz62_4 : w61.cell? ⟨gb407, 4, none⟩ = some (.int .i64 x408004_1) := (kC BK407.out 4).trans rfl; have hcz62_5 : w61.cell? ⟨gb407, 5, none⟩ = some (.int .i64 x408005_1) := (kC BK407.out 5).trans rfl; have hcz62_6 : w61.cell? ⟨gb407, 6, none⟩ = some (.int .i64 x408006_1) := (kC BK407.out 6).trans rfl; have hcz62_7 : w61.cell? ⟨gb407, 7, none⟩ = some (.bool x408007_1) := (kC BK407.out 7).trans rfl; have hfz62_0 := kF BK407.out 0; have hfz62_1 := kF BK407.out 1; have hfz62_2 := kF BK407.out 2; have hfz62_3 := kF BK407.out 3; have hfz62_4 := kF BK407.out 4; have hfz62_5 := kF BK407.out 5; have hfz62_6 := kF BK407.out 6; have hfz62_7 := kF BK407.out 7))
       go_ret
       exact ⟨by first | rfl | (simp [errW_none, errW_some] <;> rfl) | (simp [*, errW_none, errW_some] <;> rfl), by repeat (first | (with_reducible first | exact HB.out | apply kL | apply kM | apply kE | refine kS ?_ GE407.out) | exact HB.out)⟩
      ·rw [if_neg c60] at H
       have c60b0 : (x408002_1 == 8) = false := beq_eq_false_iff_ne.mpr c60
       have c60b1 : (x408002_1 != 8) = true := bne_iff_ne.mpr c60
       exact absurd H (by simp)
     ·replace c59 := Bool.eq_false_iff.mpr c59
      subst c59
      have H1 : (some false) = some true := by rw [if_neg (show ¬ (false = true) by decide)] at H; try exact H
      clear H
      have H := H1
      clear H1
      exact absurd H (by simp)

/-- THE ONE PURE STATEMENT of paybooklaw12_CycleLadder: yours. -/
def paybooklaw12_CycleLadder.Pure : Prop := ∀ (a0 : Int) (a1 : Int) (a2 : Bool), (Lit.int .u16 a0).wf = true → (Lit.int .u16 a1).wf = true → ∃ k, paybooklaw12_CycleLadder.f k a0 a1 a2 = some true
theorem paybooklaw12_CycleLadder.walk (P : paybooklaw12_CycleLadder.Pure) (a0 : Int) (a1 : Int) (a2 : Bool) (w : World) (w0 : (Lit.int .u16 a0).wf = true) (w1 : (Lit.int .u16 a1).wf = true) (hrG0 : Kd.C (Kd.int .i64) w (some ⟨0, 0, none⟩) 3 gl0) :
  Calls Tryd.prog 9 #[.int .u16 a0, .int .u16 a1, .bool a2] w fun e w' => e = .returned (.bool true) ∧ Below w.heap.size w w' := by
 obtain ⟨k, h⟩ := P a0 a1 a2 w0 w1
 refine (paybooklaw12_CycleLadder.calls k a0 a1 a2 w hrG0 h).mono ?_
 rintro e w' ⟨rfl, hd⟩
 exact ⟨rfl, hd⟩

end Go.Proofs.YtlfaaogifplgeaaDoor.PA
