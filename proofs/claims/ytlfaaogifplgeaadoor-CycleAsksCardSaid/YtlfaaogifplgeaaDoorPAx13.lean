-- printed by this workplace: wip/patchprint.py over the kit's print
import Derived.Test.YtlfaaogifplgeaaDoorPAx0
import Derived.Test.YtlfaaogifplgeaaDoorPAx2
import Derived.Test.YtlfaaogifplgeaaDoorPAx3
import Derived.Test.YtlfaaogifplgeaaDoorPAx4
import Derived.Test.YtlfaaogifplgeaaDoorPAx6
import Derived.Test.YtlfaaogifplgeaaDoorPAx7
import Derived.Test.YtlfaaogifplgeaaDoorPAx11
import Derived.Test.YtlfaaogifplgeaaDoorPAx12
namespace Go.Proofs.YtlfaaogifplgeaaDoor.PA
open Go.RowKit Go.Proofs.YtlfaaogifplgeaaDoorW.PrintWords Go.Proofs.YtlfaaogifplgeaaDoorW.PrintLast Go.Proofs.YtlfaaogifplgeaaDoorW.PrintMore
attribute [local go_sem] max2_int min2_int max_two min_two max_three min_three max_four min_four   -- for this text's walks alone
set_option linter.unusedVariables false
set_option linter.unusedSimpArgs false

attribute [local go_sem high] eqA28
/-! ### paybooklaw12_CycleAsks: function 3 -/
def paybooklaw12_CycleAsks.f (k : Nat) (a0 : Int) (a1 : Int) (a2 : Int) (a3 : Int) (a4 : Int) (a5 : Bool) : Option (Bool) := (paybooklaw12_at.f k a0 a1 9 a2 0 a3 3 a5).bind fun bt208 => ((cycle_Asks.f (wrap64 (a4)) bt208.1 bt208.2.1 bt208.2.2.1 bt208.2.2.2.1 bt208.2.2.2.2.1 bt208.2.2.2.2.2.1 bt208.2.2.2.2.2.2.1 bt208.2.2.2.2.2.2.2).bind fun bt217 => ((paybookref12_Asks.f (wrap64 (a4)) bt208.1 bt208.2.1 bt208.2.2.1 bt208.2.2.2.1 bt208.2.2.2.2.1 bt208.2.2.2.2.2.1 bt208.2.2.2.2.2.2.1 bt208.2.2.2.2.2.2.2).bind fun bt225 => ((paybooklaw12_awake.f k).bind fun t233 => (if t233 = true then (if (bt217.2.2.2.2.2.2 == bt225.2.2.2.2.2.2) = true then (if (bt217.1 == bt225.1 && (bt217.2.1 == bt225.2.1 && (bt217.2.2.1 == bt225.2.2.1 && (bt217.2.2.2.1 == bt225.2.2.2.1 && (bt217.2.2.2.2.1 == bt225.2.2.2.2.1 && (bt217.2.2.2.2.2.1 == bt225.2.2.2.2.2.1)))))) = true then ((cycle_Ended.f bt208.1 bt208.2.1 bt208.2.2.1 bt208.2.2.2.1 bt208.2.2.2.2.1 bt208.2.2.2.2.2.1 bt208.2.2.2.2.2.2.1 bt208.2.2.2.2.2.2.2).bind fun t234 => ((paybookref12_Ended.f bt208.2.2.1).bind fun t235 => (if (t234 == t235) = true then (if bt217.2.2.2.2.2.2 = true then ((cycle_Ended.f bt208.1 bt208.2.1 bt208.2.2.1 bt208.2.2.2.1 bt208.2.2.2.2.1 bt208.2.2.2.2.2.1 bt208.2.2.2.2.2.2.1 bt208.2.2.2.2.2.2.2).bind fun t236 => (some (!t236))) else (some true)) else (some false)))) else (some false)) else (some false)) else (some false)))))
theorem paybooklaw12_CycleAsks.mono : ∀ a0 a1 a2 a3 a4 a5 k, LeO (paybooklaw12_CycleAsks.f k a0 a1 a2 a3 a4 a5) (paybooklaw12_CycleAsks.f (k + 1) a0 a1 a2 a3 a4 a5) := by
 intro a0 a1 a2 a3 a4 a5 k
 unfold paybooklaw12_CycleAsks.f
 repeat' first
   | (with_reducible exact paybooklaw12_at.mono _ _ _ _ _ _ _ _ _)
   | (with_reducible exact paybooklaw12_awake.mono _)
   | (with_reducible exact LeO.refl _)
   | (with_reducible exact LeO.none _)
   | (with_reducible refine LeO.ite ?_ ?_)
   | (with_reducible refine LeO.bind ?_ (fun _ => ?_))
   | exact paybooklaw12_at.mono _ _ _ _ _ _ _ _ _
   | exact paybooklaw12_awake.mono _
   | exact LeO.none _
   | refine LeO.ite ?_ ?_
   | refine LeO.bind ?_ (fun _ => ?_)
def paybooklaw12_CycleAsks.T4 : Bool × List (List Nat × List Nat) := (true, [([], []), ([0, 0], [0]), ([1], [1]), ([1], [1]), ([2, 3, 1], [1, 2, 3]), ([1, 4], [1, 4]), ([5, 1], [5]), ([6], [6]), ([6], [6]), ([7, 8, 6], [6, 7, 8]), ([6, 9], [6, 9]), ([10, 6], [10]), ([11], [11]), ([12, 11, 11], [11, 12]), ([11], [11]), ([14, 11], [11, 14]), ([15, 13, 11], [11, 15]), ([13, 16, 11], [11, 13, 16]), ([11, 17], [11, 17]), ([18, 16], [18]), ([19], [19]), ([20, 19], [19, 20]), ([21, 19, 19], [19, 21]), ([22], [22]), ([23, 22, 22], [22, 23]), ([24, 22], [22, 24]), ([22, 25, 19], [19, 22, 25]), ([19, 26], [19, 26]), ([27, 24, 0, 1, 2, 3, 4, 5, 6, 7, 8, 9, 10, 11, 12, 13, 14, 15, 16, 17, 18, 19, 20, 21, 22, 23, 24, 25, 26, 27], [27])])
def paybooklaw12_CycleAsks.B4 : List Nat := [0, 1, 3, 3, 15, 31, 63, 127, 127, 511, 1023, 2047, 4095, 8191, 4095, 20479, 65535, 131071, 262143, 524287, 1048575, 2097151, 4194303, 8388607, 16777215, 33554431, 67108863, 134217727, 268435455]
theorem paybooklaw12_CycleAsks.tab4 : rtab .any (opsOf Tryd.f3 4) = paybooklaw12_CycleAsks.T4 := by kernel_rfl
theorem paybooklaw12_CycleAsks.bits4 : waitsOk paybooklaw12_CycleAsks.T4.2 paybooklaw12_CycleAsks.B4 = true := by kernel_rfl
set_option maxHeartbeats 40000000 in
set_option maxRecDepth 100000 in
theorem paybooklaw12_CycleAsks.calls (k : Nat) (a0 : Int) (a1 : Int) (a2 : Int) (a3 : Int) (a4 : Int) (a5 : Bool) (w : World) (hrG0 : Kd.C (Kd.int .i64) w (some ⟨0, 0, none⟩) 3 gl0) (h : paybooklaw12_CycleAsks.f k a0 a1 a2 a3 a4 a5 = some true) :
  Calls Tryd.prog 3 #[.int .u8 a0, .int .u16 a1, .int .u32 a2, .int .u8 a3, .int .u8 a4, .bool a5] w fun e w' => e = .returned (.bool true) ∧ Below w.heap.size w w' := by
 have hu25 := Tryd.underlying25
 have hu28 := Tryd.underlying28
 have HRG0 := Aside0.mk hrG0
 clear hrG0
 have HB := Aside0.mk (Below.refl w.heap.size w)
 have H : ((paybooklaw12_at.f k a0 a1 9 a2 0 a3 3 a5).bind fun bt208 => ((cycle_Asks.f (wrap64 (a4)) bt208.1 bt208.2.1 bt208.2.2.1 bt208.2.2.2.1 bt208.2.2.2.2.1 bt208.2.2.2.2.2.1 bt208.2.2.2.2.2.2.1 bt208.2.2.2.2.2.2.2).bind fun bt217 => ((paybookref12_Asks.f (wrap64 (a4)) bt208.1 bt208.2.1 bt208.2.2.1 bt208.2.2.2.1 bt208.2.2.2.2.1 bt208.2.2.2.2.2.1 bt208.2.2.2.2.2.2.1 bt208.2.2.2.2.2.2.2).bind fun bt225 => ((paybooklaw12_awake.f k).bind fun t233 => (if t233 = true then (if (bt217.2.2.2.2.2.2 == bt225.2.2.2.2.2.2) = true then (if (bt217.1 == bt225.1 && (bt217.2.1 == bt225.2.1 && (bt217.2.2.1 == bt225.2.2.1 && (bt217.2.2.2.1 == bt225.2.2.2.1 && (bt217.2.2.2.2.1 == bt225.2.2.2.2.1 && (bt217.2.2.2.2.2.1 == bt225.2.2.2.2.2.1)))))) = true then ((cycle_Ended.f bt208.1 bt208.2.1 bt208.2.2.1 bt208.2.2.2.1 bt208.2.2.2.2.1 bt208.2.2.2.2.2.1 bt208.2.2.2.2.2.2.1 bt208.2.2.2.2.2.2.2).bind fun t234 => ((paybookref12_Ended.f bt208.2.2.1).bind fun t235 => (if (t234 == t235) = true then (if bt217.2.2.2.2.2.2 = true then ((cycle_Ended.f bt208.1 bt208.2.1 bt208.2.2.1 bt208.2.2.2.1 bt208.2.2.2.2.1 bt208.2.2.2.2.2.1 bt208.2.2.2.2.2.2.1 bt208.2.2.2.2.2.2.2).bind fun t236 => (some (!t236))) else (some true)) else (some false)))) else (some false)) else (some false)) else (some false)))))) = some true := h
 clear h
 replace H := Option.bind_eq_some_iff.mp H
 obtain ⟨⟨t208, t209, t210, t211, t212, t213, t214, t215⟩, A70, H⟩ := H
 replace H : ((cycle_Asks.f (wrap64 (a4)) t208 t209 t210 t211 t212 t213 t214 t215).bind fun bt217 => ((paybookref12_Asks.f (wrap64 (a4)) t208 t209 t210 t211 t212 t213 t214 t215).bind fun bt225 => ((paybooklaw12_awake.f k).bind fun t233 => (if t233 = true then (if (bt217.2.2.2.2.2.2 == bt225.2.2.2.2.2.2) = true then (if (bt217.1 == bt225.1 && (bt217.2.1 == bt225.2.1 && (bt217.2.2.1 == bt225.2.2.1 && (bt217.2.2.2.1 == bt225.2.2.2.1 && (bt217.2.2.2.2.1 == bt225.2.2.2.2.1 && (bt217.2.2.2.2.2.1 == bt225.2.2.2.2.2.1)))))) = true then ((cycle_Ended.f t208 t209 t210 t211 t212 t213 t214 t215).bind fun t234 => ((paybookref12_Ended.f t210).bind fun t235 => (if (t234 == t235) = true then (if bt217.2.2.2.2.2.2 = true then ((cycle_Ended.f t208 t209 t210 t211 t212 t213 t214 t215).bind fun t236 => (some (!t236))) else (some true)) else (some false)))) else (some false)) else (some false)) else (some false))))) = some true := H
 have A7 := Aside0.mk A70
 clear A70
 replace H := Option.bind_eq_some_iff.mp H
 obtain ⟨⟨t217, t218, t219, t220, t221, t222, t223⟩, A80, H⟩ := H
 replace H : ((paybookref12_Asks.f (wrap64 (a4)) t208 t209 t210 t211 t212 t213 t214 t215).bind fun bt225 => ((paybooklaw12_awake.f k).bind fun t233 => (if t233 = true then (if (t223 == bt225.2.2.2.2.2.2) = true then (if (t217 == bt225.1 && (t218 == bt225.2.1 && (t219 == bt225.2.2.1 && (t220 == bt225.2.2.2.1 && (t221 == bt225.2.2.2.2.1 && (t222 == bt225.2.2.2.2.2.1)))))) = true then ((cycle_Ended.f t208 t209 t210 t211 t212 t213 t214 t215).bind fun t234 => ((paybookref12_Ended.f t210).bind fun t235 => (if (t234 == t235) = true then (if t223 = true then ((cycle_Ended.f t208 t209 t210 t211 t212 t213 t214 t215).bind fun t236 => (some (!t236))) else (some true)) else (some false)))) else (some false)) else (some false)) else (some false)))) = some true := H
 have A8 := Aside0.mk A80
 clear A80
 replace H := Option.bind_eq_some_iff.mp H
 obtain ⟨⟨t225, t226, t227, t228, t229, t230, t231⟩, A90, H⟩ := H
 replace H : ((paybooklaw12_awake.f k).bind fun t233 => (if t233 = true then (if (t223 == t231) = true then (if (t217 == t225 && (t218 == t226 && (t219 == t227 && (t220 == t228 && (t221 == t229 && (t222 == t230)))))) = true then ((cycle_Ended.f t208 t209 t210 t211 t212 t213 t214 t215).bind fun t234 => ((paybookref12_Ended.f t210).bind fun t235 => (if (t234 == t235) = true then (if t223 = true then ((cycle_Ended.f t208 t209 t210 t211 t212 t213 t214 t215).bind fun t236 => (some (!t236))) else (some true)) else (some false)))) else (some false)) else (some false)) else (some false))) = some true := H
 have A9 := Aside0.mk A90
 clear A90
 replace H := Option.bind_eq_some_iff.mp H
 obtain ⟨t233, A100, H⟩ := H
 replace H : (if t233 = true then (if (t223 == t231) = true then (if (t217 == t225 && (t218 == t226 && (t219 == t227 && (t220 == t228 && (t221 == t229 && (t222 == t230)))))) = true then ((cycle_Ended.f t208 t209 t210 t211 t212 t213 t214 t215).bind fun t234 => ((paybookref12_Ended.f t210).bind fun t235 => (if (t234 == t235) = true then (if t223 = true then ((cycle_Ended.f t208 t209 t210 t211 t212 t213 t214 t215).bind fun t236 => (some (!t236))) else (some true)) else (some false)))) else (some false)) else (some false)) else (some false)) = some true := H
 have A10 := Aside0.mk A100
 clear A100
 by_cases c11 : t233 = true
 ·subst c11
  have H1 : (if (t223 == t231) = true then (if (t217 == t225 && (t218 == t226 && (t219 == t227 && (t220 == t228 && (t221 == t229 && (t222 == t230)))))) = true then ((cycle_Ended.f t208 t209 t210 t211 t212 t213 t214 t215).bind fun t234 => ((paybookref12_Ended.f t210).bind fun t235 => (if (t234 == t235) = true then (if t223 = true then ((cycle_Ended.f t208 t209 t210 t211 t212 t213 t214 t215).bind fun t236 => (some (!t236))) else (some true)) else (some false)))) else (some false)) else (some false)) = some true := by rw [if_pos rfl] at H; try exact H
  clear H
  have H := H1
  clear H1
  by_cases c12 : (t223 == t231) = true
  ·rw [if_pos c12] at H
   have c12b0 : (t223 == t231) = true := c12
   (try (have c12b1 : decide (t223 = t231) = true := by simpa using c12))
   (try (have c12b2 : (t223 == t231) = true := by simpa using c12))
   clear c12
   by_cases c13 : (t217 == t225 && (t218 == t226 && (t219 == t227 && (t220 == t228 && (t221 == t229 && (t222 == t230)))))) = true
   ·rw [if_pos c13] at H
    have c13b0 : (t217 == t225 && (t218 == t226 && (t219 == t227 && (t220 == t228 && (t221 == t229 && (t222 == t230)))))) = true := c13
    (try (have c13b1 : decide (t217 = t225 && (t218 == t226 && (t219 == t227 && (t220 == t228 && (t221 == t229 && (t222 == t230)))))) = true := by simpa using c13))
    (try (have c13b2 : (t217 == t225 && (t218 == t226 && (t219 == t227 && (t220 == t228 && (t221 == t229 && (t222 == t230)))))) = true := by simpa using c13))
    clear c13
    replace H := Option.bind_eq_some_iff.mp H
    obtain ⟨t234, A140, H⟩ := H
    replace H : ((paybookref12_Ended.f t210).bind fun t235 => (if (t234 == t235) = true then (if t223 = true then ((cycle_Ended.f t208 t209 t210 t211 t212 t213 t214 t215).bind fun t236 => (some (!t236))) else (some true)) else (some false))) = some true := H
    have A14 := Aside0.mk A140
    clear A140
    replace H := Option.bind_eq_some_iff.mp H
    obtain ⟨t235, A150, H⟩ := H
    replace H : (if (t234 == t235) = true then (if t223 = true then ((cycle_Ended.f t208 t209 t210 t211 t212 t213 t214 t215).bind fun t236 => (some (!t236))) else (some true)) else (some false)) = some true := H
    have A15 := Aside0.mk A150
    clear A150
    by_cases c16 : (t234 == t235) = true
    ·rw [if_pos c16] at H
     have c16b0 : (t234 == t235) = true := c16
     (try (have c16b1 : decide (t234 = t235) = true := by simpa using c16))
     (try (have c16b2 : (t234 == t235) = true := by simpa using c16))
     clear c16
     by_cases c17 : t223 = true
     ·subst c17
      have H1 : ((cycle_Ended.f t208 t209 t210 t211 t212 t213 t214 t215).bind fun t236 => (some (!t236))) = some true := by rw [if_pos rfl] at H; try exact H
      clear H
      have H := H1
      clear H1
      (try (have c12b0z_ := c12b0; simp only [beq_true, beq_false, true_beq, false_beq, Bool.not_eq_true', Bool.not_eq_false', Bool.not_true, Bool.not_false] at c12b0z_))
      (try (have c12b2z_ := c12b2; simp only [beq_true, beq_false, true_beq, false_beq, Bool.not_eq_true', Bool.not_eq_false', Bool.not_true, Bool.not_false] at c12b2z_))
      replace H := Option.bind_eq_some_iff.mp H
      obtain ⟨t236, A180, H⟩ := H
      replace H : (some (!t236)) = some true := H
      have A18 := Aside0.mk A180
      clear A180
      have HT_ := Option.some.inj H
      clear H
      (try (have HT_z_ := HT_; simp only [beq_true, beq_false, true_beq, false_beq, Bool.not_eq_true', Bool.not_eq_false', Bool.not_true, Bool.not_false] at HT_z_))
      go_enter Tryd.func3, Tryd.ntmps3
      try go_wp2_with (first | ((with_reducible refine gate_callee (f := 12) rfl ?_); refine goesL_ (some 23) rfl rfl Tryd.func12 (by kernel_rfl) rfl #[.int .u8 a0, .int .u16 a1, .int .u16 9, .int .u32 a2, .int .i32 0, .int .u8 a3, .int .u16 3, .bool a5] rfl (by (try simp only [List.map_toArray, List.map_cons, List.map_nil]); first | done | rfl | (simp only [List.length_drop, List.length_take]; rfl)) ?_; (with_reducible refine (paybooklaw12_at.calls k a0 a1 9 a2 0 a3 3 a5 t208 t209 t210 t211 t212 t213 t214 t215 _ A7.out).mono ?_); rintro e w19 ⟨rfl, hb⟩; refine ⟨_, rfl, ?_⟩; have n0_ := Aside0.mk (below_step (by repeat (first | (with_reducible first | exact HB.out | apply kL | apply kM | apply kE) | exact HB.out)) hb); clear HB; have HB := n0_; clear n0_; (try clear hb); (try clear hb2); (try clear hk); (try clear hi)) | ((with_reducible refine gate_dst (N := 13) rfl ?_); refine box_event ?hg (N := 13) ?hd (cs := #[.int .i64 0, .int .i64 0, .int .u8 0, .int .i64 0, .int .i64 0, .int .i64 0, .int .i64 0, .bool false]) (t := 25) ?hr ?_; (case hd => rfl); (case hg => rfl); (case hr => first | (go_simp; done) | (go_simp; rfl)); intro gb216 hg w20 hbox hb; have n0_ := Aside0.mk (below_step (by repeat (first | (with_reducible first | exact HB.out | apply kL | apply kM | apply kE) | exact HB.out)) hb); have n1_ := Aside0.mk (hbox); have n2_ := Aside0.mk ((by rw [hg]; exact (below_size (by repeat (first | (with_reducible first | exact HB.out | apply kL | apply kM | apply kE) | exact HB.out))) : w.heap.size ≤ gb216)); have n3_ := Aside0.mk ((by rw [hg]; exact (below_size (by repeat (first | (with_reducible first | exact HB.out | apply kL | apply kM | apply kE) | exact HB.out))) : w.heap.size ≤ gb216)); clear HB; have HB := n0_; have BK216 := n1_; have GW216 := n2_; have GE216 := n3_; clear n0_ n1_ n2_ n3_; clear hb hbox hg; have hcz21_0 : w20.cell? ⟨gb216, 0, none⟩ = some (.int .i64 0) := (kC BK216.out 0).trans rfl; have hcz21_1 : w20.cell? ⟨gb216, 1, none⟩ = some (.int .i64 0) := (kC BK216.out 1).trans rfl; have hcz21_2 : w20.cell? ⟨gb216, 2, none⟩ = some (.int .u8 0) := (kC BK216.out 2).trans rfl; have hcz21_3 : w20.cell? ⟨gb216, 3, none⟩ = some (.int .i64 0) := (kC BK216.out 3).trans rfl; have hcz21_4 : w20.cell? ⟨gb216, 4, none⟩ = some (.int .i64 0) := (kC BK216.out 4).trans rfl; have hcz21_5 : w20.cell? ⟨gb216, 5, none⟩ = some (.int .i64 0) := (kC BK216.out 5).trans rfl; have hcz21_6 : w20.cell? ⟨gb216, 6, none⟩ = some (.int .i64 0) := (kC BK216.out 6).trans rfl; have hcz21_7 : w20.cell? ⟨gb216, 7, none⟩ = some (.bool false) := (kC BK216.out 7).trans rfl; have hfz21_0 := kF BK216.out 0; have hfz21_1 := kF BK216.out 1; have hfz21_2 := kF BK216.out 2; have hfz21_3 := kF BK216.out 3; have hfz21_4 := kF BK216.out 4; have hfz21_5 := kF BK216.out 5; have hfz21_6 := kF BK216.out 6; have hfz21_7 := kF BK216.out 7) | ((with_reducible refine gate_dst (N := 27) rfl ?_); refine wpList_load_row rfl 25 (.tmp 13) rfl gb216 rfl 25 #[.int .i64 t208, .int .i64 t209, .int .u8 t210, .int .i64 t211, .int .i64 t212, .int .i64 t213, .int .i64 t214, .bool t215] (0, 0) _ (by (with_reducible repeat (first | refine kN ?_ _ | refine kD ?_ | refine kA ?_ _)); refine kP (cs := #[.int .i64 t208, .int .i64 t209, .int .u8 t210, .int .i64 t211, .int .i64 t212, .int .i64 t213, .int .i64 t214, .bool false]) ?_ 7 _ rfl; (with_reducible repeat (first | refine kN ?_ _ | refine kD ?_ | refine kA ?_ _)); refine kP (cs := #[.int .i64 t208, .int .i64 t209, .int .u8 t210, .int .i64 t211, .int .i64 t212, .int .i64 t213, .int .i64 0, .bool false]) ?_ 6 _ rfl; (with_reducible repeat (first | refine kN ?_ _ | refine kD ?_ | refine kA ?_ _)); refine kP (cs := #[.int .i64 t208, .int .i64 t209, .int .u8 t210, .int .i64 t211, .int .i64 t212, .int .i64 0, .int .i64 0, .bool false]) ?_ 5 _ rfl; (with_reducible repeat (first | refine kN ?_ _ | refine kD ?_ | refine kA ?_ _)); refine kP (cs := #[.int .i64 t208, .int .i64 t209, .int .u8 t210, .int .i64 t211, .int .i64 0, .int .i64 0, .int .i64 0, .bool false]) ?_ 4 _ rfl; (with_reducible repeat (first | refine kN ?_ _ | refine kD ?_ | refine kA ?_ _)); refine kP (cs := #[.int .i64 t208, .int .i64 t209, .int .u8 t210, .int .i64 0, .int .i64 0, .int .i64 0, .int .i64 0, .bool false]) ?_ 3 _ rfl; (with_reducible repeat (first | refine kN ?_ _ | refine kD ?_ | refine kA ?_ _)); refine kP (cs := #[.int .i64 t208, .int .i64 t209, .int .u8 0, .int .i64 0, .int .i64 0, .int .i64 0, .int .i64 0, .bool false]) ?_ 2 _ rfl; (with_reducible repeat (first | refine kN ?_ _ | refine kD ?_ | refine kA ?_ _)); refine kP (cs := #[.int .i64 t208, .int .i64 0, .int .u8 0, .int .i64 0, .int .i64 0, .int .i64 0, .int .i64 0, .bool false]) ?_ 1 _ rfl; (with_reducible repeat (first | refine kN ?_ _ | refine kD ?_ | refine kA ?_ _)); refine kP (cs := #[.int .i64 0, .int .i64 0, .int .u8 0, .int .i64 0, .int .i64 0, .int .i64 0, .int .i64 0, .bool false]) ?_ 0 _ rfl; (with_reducible repeat (first | refine kN ?_ _ | refine kD ?_ | refine kA ?_ _)); exact BK216.out) Tryd.underlying25 rfl (by kernel_rfl) ?_) | ((with_reducible refine gate_callee (f := 13) rfl ?_); refine goesL_ (some 28) rfl rfl Tryd.func13 (by kernel_rfl) rfl #[.int .i64 (wrap64 (a4)), .agg #[.int .i64 t208, .int .i64 t209, .int .u8 t210, .int .i64 t211, .int .i64 t212, .int .i64 t213, .int .i64 t214, .bool t215]] rfl (by (try simp only [List.map_toArray, List.map_cons, List.map_nil]); first | done | rfl | (simp only [List.length_drop, List.length_take]; rfl)) ?_; (with_reducible refine (cycle_Asks.calls (wrap64 (a4)) t208 t209 t210 t211 t212 t213 t214 t215 t217 t218 t219 t220 t221 t222 true _ A8.out).mono ?_); rintro e w22 ⟨rfl, hb⟩; refine ⟨_, rfl, ?_⟩; have n0_ := Aside0.mk (blk_below (g := gb216) (o := .cells #[.int .i64 t208, .int .i64 t209, .int .u8 t210, .int .i64 t211, .int .i64 t212, .int .i64 t213, .int .i64 t214, .bool t215] 25 (0, 0)) (by (with_reducible repeat (first | refine kN ?_ _ | refine kD ?_ | refine kA ?_ _)); refine kP (cs := #[.int .i64 t208, .int .i64 t209, .int .u8 t210, .int .i64 t211, .int .i64 t212, .int .i64 t213, .int .i64 t214, .bool false]) ?_ 7 _ rfl; (with_reducible repeat (first | refine kN ?_ _ | refine kD ?_ | refine kA ?_ _)); refine kP (cs := #[.int .i64 t208, .int .i64 t209, .int .u8 t210, .int .i64 t211, .int .i64 t212, .int .i64 t213, .int .i64 0, .bool false]) ?_ 6 _ rfl; (with_reducible repeat (first | refine kN ?_ _ | refine kD ?_ | refine kA ?_ _)); refine kP (cs := #[.int .i64 t208, .int .i64 t209, .int .u8 t210, .int .i64 t211, .int .i64 t212, .int .i64 0, .int .i64 0, .bool false]) ?_ 5 _ rfl; (with_reducible repeat (first | refine kN ?_ _ | refine kD ?_ | refine kA ?_ _)); refine kP (cs := #[.int .i64 t208, .int .i64 t209, .int .u8 t210, .int .i64 t211, .int .i64 0, .int .i64 0, .int .i64 0, .bool false]) ?_ 4 _ rfl; (with_reducible repeat (first | refine kN ?_ _ | refine kD ?_ | refine kA ?_ _)); refine kP (cs := #[.int .i64 t208, .int .i64 t209, .int .u8 t210, .int .i64 0, .int .i64 0, .int .i64 0, .int .i64 0, .bool false]) ?_ 3 _ rfl; (with_reducible repeat (first | refine kN ?_ _ | refine kD ?_ | refine kA ?_ _)); refine kP (cs := #[.int .i64 t208, .int .i64 t209, .int .u8 0, .int .i64 0, .int .i64 0, .int .i64 0, .int .i64 0, .bool false]) ?_ 2 _ rfl; (with_reducible repeat (first | refine kN ?_ _ | refine kD ?_ | refine kA ?_ _)); refine kP (cs := #[.int .i64 t208, .int .i64 0, .int .u8 0, .int .i64 0, .int .i64 0, .int .i64 0, .int .i64 0, .bool false]) ?_ 1 _ rfl; (with_reducible repeat (first | refine kN ?_ _ | refine kD ?_ | refine kA ?_ _)); refine kP (cs := #[.int .i64 0, .int .i64 0, .int .u8 0, .int .i64 0, .int .i64 0, .int .i64 0, .int .i64 0, .bool false]) ?_ 0 _ rfl; (with_reducible repeat (first | refine kN ?_ _ | refine kD ?_ | refine kA ?_ _)); exact BK216.out) hb); have n1_ := Aside0.mk (below_step (by repeat (first | (with_reducible first | exact HB.out | apply kL | apply kM | apply kE | refine kS ?_ GE216.out) | exact HB.out)) hb); clear BK216; clear HB; have BK216 := n0_; have HB := n1_; clear n0_ n1_; (try clear hb); (try clear hb2); (try clear hk); (try clear hi)) | ((with_reducible refine gate_dst (N := 14) rfl ?_); refine box_event ?hg (N := 14) ?hd (cs := #[.int .u8 0, .int .i64 0, .int .i64 0, .int .i64 0, .int .i64 0, .int .u8 0]) (t := 28) ?hr ?_; (case hd => rfl); (case hg => rfl); (case hr => first | (go_simp; done) | (go_simp; rfl)); intro gb224 hg w23 hbox hb; have n0_ := Aside0.mk (blk_below (g := gb216) (o := .cells #[.int .i64 t208, .int .i64 t209, .int .u8 t210, .int .i64 t211, .int .i64 t212, .int .i64 t213, .int .i64 t214, .bool t215] 25 (0, 0)) (by (with_reducible repeat (first | refine kN ?_ _ | refine kD ?_ | refine kA ?_ _)); exact BK216.out) hb); have n1_ := Aside0.mk (below_step (by repeat (first | (with_reducible first | exact HB.out | apply kL | apply kM | apply kE | refine kS ?_ GE216.out) | exact HB.out)) hb); have n2_ := Aside0.mk (hbox); have n3_ := Aside0.mk ((by rw [hg]; exact (below_size (by repeat (first | (with_reducible first | exact HB.out | apply kL | apply kM | apply kE | refine kS ?_ GE216.out) | exact HB.out))) : w.heap.size ≤ gb224)); have n4_ := Aside0.mk ((by rw [hg]; exact (below_size (by repeat (first | (with_reducible first | exact HB.out | apply kL | apply kM | apply kE | refine kS ?_ GE216.out) | exact HB.out))) : w.heap.size ≤ gb224)); have n5_ := Aside0.mk ((by rw [hg]; exact Nat.ne_of_lt (blk_lt (g := gb216) (o := .cells #[.int .i64 t208, .int .i64 t209, .int .u8 t210, .int .i64 t211, .int .i64 t212, .int .i64 t213, .int .i64 t214, .bool t215] 25 (0, 0)) (by (with_reducible repeat (first | refine kN ?_ _ | refine kD ?_ | refine kA ?_ _)); exact BK216.out)) : gb216 ≠ gb224)); have n6_ := Aside0.mk ((by rw [hg]; exact Nat.ne_of_gt (blk_lt (g := gb216) (o := .cells #[.int .i64 t208, .int .i64 t209, .int .u8 t210, .int .i64 t211, .int .i64 t212, .int .i64 t213, .int .i64 t214, .bool t215] 25 (0, 0)) (by (with_reducible repeat (first | refine kN ?_ _ | refine kD ?_ | refine kA ?_ _)); exact BK216.out)) : gb224 ≠ gb216)); clear BK216; clear HB; have BK216 := n0_; have HB := n1_; have BK224 := n2_; have GW224 := n3_; have GE224 := n4_; have NB216_224 := n5_; have NB224_216 := n6_; clear n0_ n1_ n2_ n3_ n4_ n5_ n6_; clear hb hbox hg; have hnb24 := NB224_216.out; have hnc24 := NB216_224.out; have hcz25_0 : w23.cell? ⟨gb224, 0, none⟩ = some (.int .u8 0) := (kC BK224.out 0).trans rfl; have hcz25_1 : w23.cell? ⟨gb224, 1, none⟩ = some (.int .i64 0) := (kC BK224.out 1).trans rfl; have hcz25_2 : w23.cell? ⟨gb224, 2, none⟩ = some (.int .i64 0) := (kC BK224.out 2).trans rfl; have hcz25_3 : w23.cell? ⟨gb224, 3, none⟩ = some (.int .i64 0) := (kC BK224.out 3).trans rfl; have hcz25_4 : w23.cell? ⟨gb224, 4, none⟩ = some (.int .i64 0) := (kC BK224.out 4).trans rfl; have hcz25_5 : w23.cell? ⟨gb224, 5, none⟩ = some (.int .u8 0) := (kC BK224.out 5).trans rfl; have hfz25_0 := kF BK224.out 0; have hfz25_1 := kF BK224.out 1; have hfz25_2 := kF BK224.out 2; have hfz25_3 := kF BK224.out 3; have hfz25_4 := kF BK224.out 4; have hfz25_5 := kF BK224.out 5; have hcz26_0 : w23.cell? ⟨gb216, 0, none⟩ = some (.int .i64 t208) := (kC BK216.out 0).trans rfl; have hcz26_1 : w23.cell? ⟨gb216, 1, none⟩ = some (.int .i64 t209) := (kC BK216.out 1).trans rfl; have hcz26_2 : w23.cell? ⟨gb216, 2, none⟩ = some (.int .u8 t210) := (kC BK216.out 2).trans rfl; have hcz26_3 : w23.cell? ⟨gb216, 3, none⟩ = some (.int .i64 t211) := (kC BK216.out 3).trans rfl; have hcz26_4 : w23.cell? ⟨gb216, 4, none⟩ = some (.int .i64 t212) := (kC BK216.out 4).trans rfl; have hcz26_5 : w23.cell? ⟨gb216, 5, none⟩ = some (.int .i64 t213) := (kC BK216.out 5).trans rfl; have hcz26_6 : w23.cell? ⟨gb216, 6, none⟩ = some (.int .i64 t214) := (kC BK216.out 6).trans rfl; have hcz26_7 : w23.cell? ⟨gb216, 7, none⟩ = some (.bool t215) := (kC BK216.out 7).trans rfl; have hfz26_0 := kF BK216.out 0; have hfz26_1 := kF BK216.out 1; have hfz26_2 := kF BK216.out 2; have hfz26_3 := kF BK216.out 3; have hfz26_4 := kF BK216.out 4; have hfz26_5 := kF BK216.out 5; have hfz26_6 := kF BK216.out 6; have hfz26_7 := kF BK216.out 7) | ((with_reducible refine gate_dst (N := 34) rfl ?_); refine wpList_load_row rfl 25 (.tmp 13) rfl gb216 rfl 25 #[.int .i64 t208, .int .i64 t209, .int .u8 t210, .int .i64 t211, .int .i64 t212, .int .i64 t213, .int .i64 t214, .bool t215] (0, 0) _ (by (with_reducible repeat (first | refine kN ?_ _ | refine kD ?_ | refine kA ?_ _)); refine kR ?_ NB216_224.out _; (with_reducible repeat (first | refine kN ?_ _ | refine kD ?_ | refine kA ?_ _)); refine kR ?_ NB216_224.out _; (with_reducible repeat (first | refine kN ?_ _ | refine kD ?_ | refine kA ?_ _)); refine kR ?_ NB216_224.out _; (with_reducible repeat (first | refine kN ?_ _ | refine kD ?_ | refine kA ?_ _)); refine kR ?_ NB216_224.out _; (with_reducible repeat (first | refine kN ?_ _ | refine kD ?_ | refine kA ?_ _)); refine kR ?_ NB216_224.out _; (with_reducible repeat (first | refine kN ?_ _ | refine kD ?_ | refine kA ?_ _)); refine kR ?_ NB216_224.out _; (with_reducible repeat (first | refine kN ?_ _ | refine kD ?_ | refine kA ?_ _)); exact BK216.out) Tryd.underlying25 rfl (by kernel_rfl) ?_) | ((with_reducible refine gate_callee (f := 14) rfl ?_); refine goesL_ (some 35) rfl rfl Tryd.func14 (by kernel_rfl) rfl #[.int .i64 (wrap64 (a4)), .agg #[.int .i64 t208, .int .i64 t209, .int .u8 t210, .int .i64 t211, .int .i64 t212, .int .i64 t213, .int .i64 t214, .bool t215]] rfl (by (try simp only [List.map_toArray, List.map_cons, List.map_nil]); first | done | rfl | (simp only [List.length_drop, List.length_take]; rfl)) ?_; (with_reducible refine (paybookref12_Asks.calls (wrap64 (a4)) t208 t209 t210 t211 t212 t213 t214 t215 t225 t226 t227 t228 t229 t230 t231 _ A9.out).mono ?_); rintro e w27 ⟨rfl, hb⟩; refine ⟨_, rfl, ?_⟩; have n0_ := Aside0.mk (blk_below (g := gb216) (o := .cells #[.int .i64 t208, .int .i64 t209, .int .u8 t210, .int .i64 t211, .int .i64 t212, .int .i64 t213, .int .i64 t214, .bool t215] 25 (0, 0)) (by (with_reducible repeat (first | refine kN ?_ _ | refine kD ?_ | refine kA ?_ _)); refine kR ?_ NB216_224.out _; (with_reducible repeat (first | refine kN ?_ _ | refine kD ?_ | refine kA ?_ _)); refine kR ?_ NB216_224.out _; (with_reducible repeat (first | refine kN ?_ _ | refine kD ?_ | refine kA ?_ _)); refine kR ?_ NB216_224.out _; (with_reducible repeat (first | refine kN ?_ _ | refine kD ?_ | refine kA ?_ _)); refine kR ?_ NB216_224.out _; (with_reducible repeat (first | refine kN ?_ _ | refine kD ?_ | refine kA ?_ _)); refine kR ?_ NB216_224.out _; (with_reducible repeat (first | refine kN ?_ _ | refine kD ?_ | refine kA ?_ _)); refine kR ?_ NB216_224.out _; (with_reducible repeat (first | refine kN ?_ _ | refine kD ?_ | refine kA ?_ _)); exact BK216.out) hb); have n1_ := Aside0.mk (blk_below (g := gb224) (o := .cells #[.int .u8 t217, .int .i64 t218, .int .i64 t219, .int .i64 t220, .int .i64 t221, .int .u8 t222] 28 (0, 0)) (by (with_reducible repeat (first | refine kN ?_ _ | refine kD ?_ | refine kA ?_ _)); refine kP (cs := #[.int .u8 t217, .int .i64 t218, .int .i64 t219, .int .i64 t220, .int .i64 t221, .int .u8 0]) ?_ 5 _ rfl; (with_reducible repeat (first | refine kN ?_ _ | refine kD ?_ | refine kA ?_ _)); refine kP (cs := #[.int .u8 t217, .int .i64 t218, .int .i64 t219, .int .i64 t220, .int .i64 0, .int .u8 0]) ?_ 4 _ rfl; (with_reducible repeat (first | refine kN ?_ _ | refine kD ?_ | refine kA ?_ _)); refine kP (cs := #[.int .u8 t217, .int .i64 t218, .int .i64 t219, .int .i64 0, .int .i64 0, .int .u8 0]) ?_ 3 _ rfl; (with_reducible repeat (first | refine kN ?_ _ | refine kD ?_ | refine kA ?_ _)); refine kP (cs := #[.int .u8 t217, .int .i64 t218, .int .i64 0, .int .i64 0, .int .i64 0, .int .u8 0]) ?_ 2 _ rfl; (with_reducible repeat (first | refine kN ?_ _ | refine kD ?_ | refine kA ?_ _)); refine kP (cs := #[.int .u8 t217, .int .i64 0, .int .i64 0, .int .i64 0, .int .i64 0, .int .u8 0]) ?_ 1 _ rfl; (with_reducible repeat (first | refine kN ?_ _ | refine kD ?_ | refine kA ?_ _)); refine kP (cs := #[.int .u8 0, .int .i64 0, .int .i64 0, .int .i64 0, .int .i64 0, .int .u8 0]) ?_ 0 _ rfl; (with_reducible repeat (first | refine kN ?_ _ | refine kD ?_ | refine kA ?_ _)); exact BK224.out) hb); have n2_ := Aside0.mk (below_step (by repeat (first | (with_reducible first | exact HB.out | apply kL | apply kM | apply kE | refine kS ?_ GE216.out | refine kS ?_ GE224.out) | exact HB.out)) hb); clear BK216; clear BK224; clear HB; have BK216 := n0_; have BK224 := n1_; have HB := n2_; clear n0_ n1_ n2_; (try clear hb); (try clear hb2); (try clear hk); (try clear hi)) | ((with_reducible refine gate_dst (N := 16) rfl ?_); refine box_event ?hg (N := 16) ?hd (cs := #[.int .u8 0, .int .i64 0, .int .i64 0, .int .i64 0, .int .i64 0, .int .u8 0]) (t := 28) ?hr ?_; (case hd => rfl); (case hg => rfl); (case hr => first | (go_simp; done) | (go_simp; rfl)); intro gb232 hg w28 hbox hb; have n0_ := Aside0.mk (blk_below (g := gb216) (o := .cells #[.int .i64 t208, .int .i64 t209, .int .u8 t210, .int .i64 t211, .int .i64 t212, .int .i64 t213, .int .i64 t214, .bool t215] 25 (0, 0)) (by (with_reducible repeat (first | refine kN ?_ _ | refine kD ?_ | refine kA ?_ _)); exact BK216.out) hb); have n1_ := Aside0.mk (blk_below (g := gb224) (o := .cells #[.int .u8 t217, .int .i64 t218, .int .i64 t219, .int .i64 t220, .int .i64 t221, .int .u8 t222] 28 (0, 0)) (by (with_reducible repeat (first | refine kN ?_ _ | refine kD ?_ | refine kA ?_ _)); exact BK224.out) hb); have n2_ := Aside0.mk (below_step (by repeat (first | (with_reducible first | exact HB.out | apply kL | apply kM | apply kE | refine kS ?_ GE216.out | refine kS ?_ GE224.out) | exact HB.out)) hb); have n3_ := Aside0.mk (hbox); have n4_ := Aside0.mk ((by rw [hg]; exact (below_size (by repeat (first | (with_reducible first | exact HB.out | apply kL | apply kM | apply kE | refine kS ?_ GE216.out | refine kS ?_ GE224.out) | exact HB.out))) : w.heap.size ≤ gb232)); have n5_ := Aside0.mk ((by rw [hg]; exact (below_size (by repeat (first | (with_reducible first | exact HB.out | apply kL | apply kM | apply kE | refine kS ?_ GE216.out | refine kS ?_ GE224.out) | exact HB.out))) : w.heap.size ≤ gb232)); have n6_ := Aside0.mk ((by rw [hg]; exact Nat.ne_of_lt (blk_lt (g := gb216) (o := .cells #[.int .i64 t208, .int .i64 t209, .int .u8 t210, .int .i64 t211, .int .i64 t212, .int .i64 t213, .int .i64 t214, .bool t215] 25 (0, 0)) (by (with_reducible repeat (first | refine kN ?_ _ | refine kD ?_ | refine kA ?_ _)); exact BK216.out)) : gb216 ≠ gb232)); have n7_ := Aside0.mk ((by rw [hg]; exact Nat.ne_of_gt (blk_lt (g := gb216) (o := .cells #[.int .i64 t208, .int .i64 t209, .int .u8 t210, .int .i64 t211, .int .i64 t212, .int .i64 t213, .int .i64 t214, .bool t215] 25 (0, 0)) (by (with_reducible repeat (first | refine kN ?_ _ | refine kD ?_ | refine kA ?_ _)); exact BK216.out)) : gb232 ≠ gb216)); have n8_ := Aside0.mk ((by rw [hg]; exact Nat.ne_of_lt (blk_lt (g := gb224) (o := .cells #[.int .u8 t217, .int .i64 t218, .int .i64 t219, .int .i64 t220, .int .i64 t221, .int .u8 t222] 28 (0, 0)) (by (with_reducible repeat (first | refine kN ?_ _ | refine kD ?_ | refine kA ?_ _)); exact BK224.out)) : gb224 ≠ gb232)); have n9_ := Aside0.mk ((by rw [hg]; exact Nat.ne_of_gt (blk_lt (g := gb224) (o := .cells #[.int .u8 t217, .int .i64 t218, .int .i64 t219, .int .i64 t220, .int .i64 t221, .int .u8 t222] 28 (0, 0)) (by (with_reducible repeat (first | refine kN ?_ _ | refine kD ?_ | refine kA ?_ _)); exact BK224.out)) : gb232 ≠ gb224)); clear BK216; clear BK224; clear HB; have BK216 := n0_; have BK224 := n1_; have HB := n2_; have BK232 := n3_; have GW232 := n4_; have GE232 := n5_; have NB216_232 := n6_; have NB232_216 := n7_; have NB224_232 := n8_; have NB232_224 := n9_; clear n0_ n1_ n2_ n3_ n4_ n5_ n6_ n7_ n8_ n9_; clear hb hbox hg; have hnb29 := NB232_216.out; have hnc29 := NB216_232.out; have hnb30 := NB232_224.out; have hnc30 := NB224_232.out; have hcz31_0 : w28.cell? ⟨gb232, 0, none⟩ = some (.int .u8 0) := (kC BK232.out 0).trans rfl; have hcz31_1 : w28.cell? ⟨gb232, 1, none⟩ = some (.int .i64 0) := (kC BK232.out 1).trans rfl; have hcz31_2 : w28.cell? ⟨gb232, 2, none⟩ = some (.int .i64 0) := (kC BK232.out 2).trans rfl; have hcz31_3 : w28.cell? ⟨gb232, 3, none⟩ = some (.int .i64 0) := (kC BK232.out 3).trans rfl; have hcz31_4 : w28.cell? ⟨gb232, 4, none⟩ = some (.int .i64 0) := (kC BK232.out 4).trans rfl; have hcz31_5 : w28.cell? ⟨gb232, 5, none⟩ = some (.int .u8 0) := (kC BK232.out 5).trans rfl; have hfz31_0 := kF BK232.out 0; have hfz31_1 := kF BK232.out 1; have hfz31_2 := kF BK232.out 2; have hfz31_3 := kF BK232.out 3; have hfz31_4 := kF BK232.out 4; have hfz31_5 := kF BK232.out 5))
      have n0_ : Aside0 (((((((w28.setCell ⟨gb232, 0, none⟩ (.int .u8 t225)).setCell ⟨gb232, 1, none⟩ (.int .i64 t226)).setCell ⟨gb232, 2, none⟩ (.int .i64 t227)).setCell ⟨gb232, 3, none⟩ (.int .i64 t228)).setCell ⟨gb232, 4, none⟩ (.int .i64 t229)).setCell ⟨gb232, 5, none⟩ (.int .u8 t230)).heap[gb216]? = some (.cells #[.int .i64 t208, .int .i64 t209, .int .u8 t210, .int .i64 t211, .int .i64 t212, .int .i64 t213, .int .i64 t214, .bool t215] 25 (0, 0))) := ⟨by (with_reducible repeat (first | refine kN ?_ _ | refine kD ?_ | refine kA ?_ _)); refine kR ?_ NB216_232.out _; (with_reducible repeat (first | refine kN ?_ _ | refine kD ?_ | refine kA ?_ _)); refine kR ?_ NB216_232.out _; (with_reducible repeat (first | refine kN ?_ _ | refine kD ?_ | refine kA ?_ _)); refine kR ?_ NB216_232.out _; (with_reducible repeat (first | refine kN ?_ _ | refine kD ?_ | refine kA ?_ _)); refine kR ?_ NB216_232.out _; (with_reducible repeat (first | refine kN ?_ _ | refine kD ?_ | refine kA ?_ _)); refine kR ?_ NB216_232.out _; (with_reducible repeat (first | refine kN ?_ _ | refine kD ?_ | refine kA ?_ _)); refine kR ?_ NB216_232.out _; (with_reducible repeat (first | refine kN ?_ _ | refine kD ?_ | refine kA ?_ _)); exact BK216.out⟩
      have n1_ : Aside0 (((((((w28.setCell ⟨gb232, 0, none⟩ (.int .u8 t225)).setCell ⟨gb232, 1, none⟩ (.int .i64 t226)).setCell ⟨gb232, 2, none⟩ (.int .i64 t227)).setCell ⟨gb232, 3, none⟩ (.int .i64 t228)).setCell ⟨gb232, 4, none⟩ (.int .i64 t229)).setCell ⟨gb232, 5, none⟩ (.int .u8 t230)).heap[gb224]? = some (.cells #[.int .u8 t217, .int .i64 t218, .int .i64 t219, .int .i64 t220, .int .i64 t221, .int .u8 t222] 28 (0, 0))) := ⟨by (with_reducible repeat (first | refine kN ?_ _ | refine kD ?_ | refine kA ?_ _)); refine kR ?_ NB224_232.out _; (with_reducible repeat (first | refine kN ?_ _ | refine kD ?_ | refine kA ?_ _)); refine kR ?_ NB224_232.out _; (with_reducible repeat (first | refine kN ?_ _ | refine kD ?_ | refine kA ?_ _)); refine kR ?_ NB224_232.out _; (with_reducible repeat (first | refine kN ?_ _ | refine kD ?_ | refine kA ?_ _)); refine kR ?_ NB224_232.out _; (with_reducible repeat (first | refine kN ?_ _ | refine kD ?_ | refine kA ?_ _)); refine kR ?_ NB224_232.out _; (with_reducible repeat (first | refine kN ?_ _ | refine kD ?_ | refine kA ?_ _)); refine kR ?_ NB224_232.out _; (with_reducible repeat (first | refine kN ?_ _ | refine kD ?_ | refine kA ?_ _)); exact BK224.out⟩
      have n2_ : Aside0 (((((((w28.setCell ⟨gb232, 0, none⟩ (.int .u8 t225)).setCell ⟨gb232, 1, none⟩ (.int .i64 t226)).setCell ⟨gb232, 2, none⟩ (.int .i64 t227)).setCell ⟨gb232, 3, none⟩ (.int .i64 t228)).setCell ⟨gb232, 4, none⟩ (.int .i64 t229)).setCell ⟨gb232, 5, none⟩ (.int .u8 t230)).heap[gb232]? = some (.cells #[.int .u8 t225, .int .i64 t226, .int .i64 t227, .int .i64 t228, .int .i64 t229, .int .u8 t230] 28 (0, 0))) := ⟨by (with_reducible repeat (first | refine kN ?_ _ | refine kD ?_ | refine kA ?_ _)); refine kP (cs := #[.int .u8 t225, .int .i64 t226, .int .i64 t227, .int .i64 t228, .int .i64 t229, .int .u8 0]) ?_ 5 _ rfl; (with_reducible repeat (first | refine kN ?_ _ | refine kD ?_ | refine kA ?_ _)); refine kP (cs := #[.int .u8 t225, .int .i64 t226, .int .i64 t227, .int .i64 t228, .int .i64 0, .int .u8 0]) ?_ 4 _ rfl; (with_reducible repeat (first | refine kN ?_ _ | refine kD ?_ | refine kA ?_ _)); refine kP (cs := #[.int .u8 t225, .int .i64 t226, .int .i64 t227, .int .i64 0, .int .i64 0, .int .u8 0]) ?_ 3 _ rfl; (with_reducible repeat (first | refine kN ?_ _ | refine kD ?_ | refine kA ?_ _)); refine kP (cs := #[.int .u8 t225, .int .i64 t226, .int .i64 0, .int .i64 0, .int .i64 0, .int .u8 0]) ?_ 2 _ rfl; (with_reducible repeat (first | refine kN ?_ _ | refine kD ?_ | refine kA ?_ _)); refine kP (cs := #[.int .u8 t225, .int .i64 0, .int .i64 0, .int .i64 0, .int .i64 0, .int .u8 0]) ?_ 1 _ rfl; (with_reducible repeat (first | refine kN ?_ _ | refine kD ?_ | refine kA ?_ _)); refine kP (cs := #[.int .u8 0, .int .i64 0, .int .i64 0, .int .i64 0, .int .i64 0, .int .u8 0]) ?_ 0 _ rfl; (with_reducible repeat (first | refine kN ?_ _ | refine kD ?_ | refine kA ?_ _)); exact BK232.out⟩
      have n3_ : Aside0 (Below w.heap.size w ((((((w28.setCell ⟨gb232, 0, none⟩ (.int .u8 t225)).setCell ⟨gb232, 1, none⟩ (.int .i64 t226)).setCell ⟨gb232, 2, none⟩ (.int .i64 t227)).setCell ⟨gb232, 3, none⟩ (.int .i64 t228)).setCell ⟨gb232, 4, none⟩ (.int .i64 t229)).setCell ⟨gb232, 5, none⟩ (.int .u8 t230))) := ⟨by repeat (first | (with_reducible first | exact HB.out | apply kL | apply kM | apply kE | refine kS ?_ GE216.out | refine kS ?_ GE224.out | refine kS ?_ GE232.out) | exact HB.out)⟩
      (try clear BK216)
      (try clear BK224)
      (try clear BK232)
      (try clear HB)
      generalize ((((((w28.setCell ⟨gb232, 0, none⟩ (.int .u8 t225)).setCell ⟨gb232, 1, none⟩ (.int .i64 t226)).setCell ⟨gb232, 2, none⟩ (.int .i64 t227)).setCell ⟨gb232, 3, none⟩ (.int .i64 t228)).setCell ⟨gb232, 4, none⟩ (.int .i64 t229)).setCell ⟨gb232, 5, none⟩ (.int .u8 t230)) = w32 at n0_ n1_ n2_ n3_ ⊢
      have BK216 := n0_
      have BK224 := n1_
      have BK232 := n2_
      have HB := n3_
      clear n0_ n1_ n2_ n3_
      have n0_ := Aside0.mk (kD BK216.out)
      have n1_ := Aside0.mk (kD BK224.out)
      have n2_ := Aside0.mk (kD BK232.out)
      have n3_ := Aside0.mk (kE HB.out)
      clear BK216
      clear BK224
      clear BK232
      clear HB
      have BK216 := n0_
      have BK224 := n1_
      have BK232 := n2_
      have HB := n3_
      clear n0_ n1_ n2_ n3_
      refine start_ (n := 29) (S := fun w' => w'.cell? ⟨gb224, 0, none⟩ = some (.int .u8 t217) ∧ w'.cell? ⟨gb224, 1, none⟩ = some (.int .i64 t218) ∧ w'.cell? ⟨gb224, 2, none⟩ = some (.int .i64 t219) ∧ w'.cell? ⟨gb224, 3, none⟩ = some (.int .i64 t220) ∧ w'.cell? ⟨gb224, 4, none⟩ = some (.int .i64 t221) ∧ w'.cell? ⟨gb224, 5, none⟩ = some (.int .u8 t222) ∧ w'.cell? ⟨gb232, 0, none⟩ = some (.int .u8 t225) ∧ w'.cell? ⟨gb232, 1, none⟩ = some (.int .i64 t226) ∧ w'.cell? ⟨gb232, 2, none⟩ = some (.int .i64 t227) ∧ w'.cell? ⟨gb232, 3, none⟩ = some (.int .i64 t228) ∧ w'.cell? ⟨gb232, 4, none⟩ = some (.int .i64 t229) ∧ w'.cell? ⟨gb232, 5, none⟩ = some (.int .u8 t230) ∧ w'.cell? ⟨gb216, 0, none⟩ = some (.int .i64 t208) ∧ w'.cell? ⟨gb216, 1, none⟩ = some (.int .i64 t209) ∧ w'.cell? ⟨gb216, 2, none⟩ = some (.int .u8 t210) ∧ w'.cell? ⟨gb216, 3, none⟩ = some (.int .i64 t211) ∧ w'.cell? ⟨gb216, 4, none⟩ = some (.int .i64 t212) ∧ w'.cell? ⟨gb216, 5, none⟩ = some (.int .i64 t213) ∧ w'.cell? ⟨gb216, 6, none⟩ = some (.int .i64 t214) ∧ w'.cell? ⟨gb216, 7, none⟩ = some (.bool t215)) (ds := []) #[F,F,F,F,F,F,F,F,F,F,F,F,F,F,F,F,F,F,F,F,F,F,F,F,F,F,F,F,F] (by kernel_rfl) rfl rfl ⟨(kC BK224.out 0).trans rfl, (kC BK224.out 1).trans rfl, (kC BK224.out 2).trans rfl, (kC BK224.out 3).trans rfl, (kC BK224.out 4).trans rfl, (kC BK224.out 5).trans rfl, (kC BK232.out 0).trans rfl, (kC BK232.out 1).trans rfl, (kC BK232.out 2).trans rfl, (kC BK232.out 3).trans rfl, (kC BK232.out 4).trans rfl, (kC BK232.out 5).trans rfl, (kC BK216.out 0).trans rfl, (kC BK216.out 1).trans rfl, (kC BK216.out 2).trans rfl, (kC BK216.out 3).trans rfl, (kC BK216.out 4).trans rfl, (kC BK216.out 5).trans rfl, (kC BK216.out 6).trans rfl, (kC BK216.out 7).trans rfl⟩ (fun hHeld => ?_); refine with_tabW paybooklaw12_CycleAsks.tab4 paybooklaw12_CycleAsks.bits4 (fun HT_ HW_ => ?_)
      generalize w32.drew = w33 at BK216 BK224 BK232 HB hHeld ⊢
      refine one_ (i := 0) (N := some 38) #[T,F,F,F,F,F,F,F,F,F,F,F,F,F,F,F,F,F,F,F,F,F,F,F,F,F,F,F,F] rfl rfl (one_of HT_.out (by kernel_rfl)) (by decide) (fun K hK => ?_)
      refine goes_ Tryd.func15 (by kernel_rfl) rfl #[] (by rfl) rfl rfl (by (try simp only [List.map_toArray, List.map_cons, List.map_nil]); first | done | rfl | (simp only [List.length_drop, List.length_take]; rfl)) ?_
      with_reducible refine (paybooklaw12_awake.calls k  true _ ?side1 A10.out).mono ?_
      (case side1 => repeat (first | exact (Kd.C_below HRG0.out HB.out) | exact HRG0.out | (with_reducible refine Kd.C_alloc ?_ _) | (with_reducible refine Kd.C_drewN ?_ _) | (with_reducible refine Kd.C_drew ?_)))
      rintro e w34 ⟨rfl, hb⟩
      refine ⟨_, rfl, ?_⟩
      have n0_ := Aside0.mk (blk_below (g := gb216) (o := .cells #[.int .i64 t208, .int .i64 t209, .int .u8 t210, .int .i64 t211, .int .i64 t212, .int .i64 t213, .int .i64 t214, .bool t215] 25 (0, 0)) (by (with_reducible repeat (first | refine kN ?_ _ | refine kD ?_ | refine kA ?_ _)); exact BK216.out) hb)
      have n1_ := Aside0.mk (blk_below (g := gb224) (o := .cells #[.int .u8 t217, .int .i64 t218, .int .i64 t219, .int .i64 t220, .int .i64 t221, .int .u8 t222] 28 (0, 0)) (by (with_reducible repeat (first | refine kN ?_ _ | refine kD ?_ | refine kA ?_ _)); exact BK224.out) hb)
      have n2_ := Aside0.mk (blk_below (g := gb232) (o := .cells #[.int .u8 t225, .int .i64 t226, .int .i64 t227, .int .i64 t228, .int .i64 t229, .int .u8 t230] 28 (0, 0)) (by (with_reducible repeat (first | refine kN ?_ _ | refine kD ?_ | refine kA ?_ _)); exact BK232.out) hb)
      have n3_ := Aside0.mk (below_step (by repeat (first | (with_reducible first | exact HB.out | apply kL | apply kM | apply kE | refine kS ?_ GE216.out | refine kS ?_ GE224.out | refine kS ?_ GE232.out) | exact HB.out)) hb)
      clear BK216
      clear BK224
      clear BK232
      clear HB
      have BK216 := n0_
      have BK224 := n1_
      have BK232 := n2_
      have HB := n3_
      clear n0_ n1_ n2_ n3_
      (try clear hb)
      (try clear hb2)
      (try clear hk)
      (try clear hi)
      refine hK.out _ _ ⟨(kC BK224.out 0).trans rfl, (kC BK224.out 1).trans rfl, (kC BK224.out 2).trans rfl, (kC BK224.out 3).trans rfl, (kC BK224.out 4).trans rfl, (kC BK224.out 5).trans rfl, (kC BK232.out 0).trans rfl, (kC BK232.out 1).trans rfl, (kC BK232.out 2).trans rfl, (kC BK232.out 3).trans rfl, (kC BK232.out 4).trans rfl, (kC BK232.out 5).trans rfl, (kC BK216.out 0).trans rfl, (kC BK216.out 1).trans rfl, (kC BK216.out 2).trans rfl, (kC BK216.out 3).trans rfl, (kC BK216.out 4).trans rfl, (kC BK216.out 5).trans rfl, (kC BK216.out 6).trans rfl, (kC BK216.out 7).trans rfl⟩ (fun hHeld => ?_)
      clear hK K
      refine norm_ (a' := ?_) ?_ ?_
      rotate_left
      ·show Act.put _ (some 38) _ = _
       simp only [Act.put, List.setIfInBounds_toArray, List.set_cons_zero, List.set_cons_succ, i64_w, i32_w]
       rfl
      refine pure_ (i := 1) (N := some 39) (v := ?_) (a' := ?_) #[T,T,F,F,F,F,F,F,F,F,F,F,F,F,F,F,F,F,F,F,F,F,F,F,F,F,F,F,F] rfl rfl (any_of HT_.out (by kernel_rfl)) (fun _ _ _ h => h) (Or.inl ⟨by rfl, ?_⟩) ?_ ?_
      rotate_left
      ·intro w'
       go_simp
       with_reducible rfl
      rotate_left
      ·simp only [Act.put, List.setIfInBounds_toArray, List.set_cons_zero, List.set_cons_succ, i64_w, i32_w]
       rfl
      refine pure_ (i := 2) (N := some 40) (v := ?_) (a' := ?_) #[T,T,T,F,F,F,F,F,F,F,F,F,F,F,F,F,F,F,F,F,F,F,F,F,F,F,F,F,F] rfl rfl (any_of HT_.out (by kernel_rfl)) (fun _ _ _ h => h) (Or.inl ⟨by rfl, ?_⟩) ?_ ?_
      rotate_left
      ·intro w'
       go_simp
       with_reducible rfl
      rotate_left
      ·simp only [Act.put, List.setIfInBounds_toArray, List.set_cons_zero, List.set_cons_succ, i64_w, i32_w]
       rfl
      refine pure_ (i := 3) (N := some 41) (v := ?_) (a' := ?_) #[T,T,T,T,F,F,F,F,F,F,F,F,F,F,F,F,F,F,F,F,F,F,F,F,F,F,F,F,F] rfl rfl (any_of HT_.out (by kernel_rfl)) (fun _ _ _ h => h) (Or.inl ⟨by rfl, ?_⟩) ?_ ?_
      rotate_left
      ·intro w'
       go_simp
       with_reducible rfl
      rotate_left
      ·simp only [Act.put, List.setIfInBounds_toArray, List.set_cons_zero, List.set_cons_succ, i64_w, i32_w]
       rfl
      refine pure_ (i := 4) (N := some 42) (v := ?_) (a' := ?_) #[T,T,T,T,T,F,F,F,F,F,F,F,F,F,F,F,F,F,F,F,F,F,F,F,F,F,F,F,F] rfl rfl (any_of HT_.out (by kernel_rfl)) (fun _ _ _ h => h) (Or.inl ⟨by rfl, ?_⟩) ?_ ?_
      rotate_left
      ·intro w'
       go_simp
       with_reducible rfl
      rotate_left
      ·simp only [Act.put, List.setIfInBounds_toArray, List.set_cons_zero, List.set_cons_succ, i64_w, i32_w]
       rfl
      refine pure_ (i := 5) (N := some 43) (v := ?_) (a' := ?_) #[T,T,T,T,T,T,F,F,F,F,F,F,F,F,F,F,F,F,F,F,F,F,F,F,F,F,F,F,F] rfl rfl (any_of HT_.out (by kernel_rfl)) (fun _ _ _ h => h) (Or.inl ⟨by rfl, ?_⟩) ?_ ?_
      rotate_left
      ·intro w'
       go_simp
       with_reducible rfl
      rotate_left
      ·simp only [Act.put, List.setIfInBounds_toArray, List.set_cons_zero, List.set_cons_succ, i64_w, i32_w]
       rfl
      refine pure_ (i := 6) (N := some 44) (v := ?_) (a' := ?_) #[T,T,T,T,T,T,T,F,F,F,F,F,F,F,F,F,F,F,F,F,F,F,F,F,F,F,F,F,F] rfl rfl (any_of HT_.out (by kernel_rfl)) (fun _ _ _ h => h) (Or.inl ⟨by rfl, ?_⟩) ?_ ?_
      rotate_left
      ·intro w'
       go_simp
       with_reducible rfl
      rotate_left
      ·simp only [Act.put, List.setIfInBounds_toArray, List.set_cons_zero, List.set_cons_succ, i64_w, i32_w]
       rfl
      refine take_ (i := 7) (N := some 45) (v := ?_) (a' := ?_) #[T,T,T,T,T,T,T,T,F,F,F,F,F,F,F,F,F,F,F,F,F,F,F,F,F,F,F,F,F] rfl rfl (take_ofW HT_.out HW_.out (by kernel_rfl)) (fun _ _ _ h => h) (Or.inl ⟨by rfl, ?_⟩) hHeld ?_ ?_
      rotate_left
      ·rintro w' ⟨s0, s1, s2, s3, s4, s5, s6, s7, s8, s9, s10, s11, s12, s13, s14, s15, s16, s17, s18, s19⟩
       go_simp
       with_reducible rfl
      rotate_left
      ·simp only [Act.put, List.setIfInBounds_toArray, List.set_cons_zero, List.set_cons_succ, i64_w, i32_w]
       rfl
      refine take_ (i := 8) (N := some 46) (v := ?_) (a' := ?_) #[T,T,T,T,T,T,T,T,T,F,F,F,F,F,F,F,F,F,F,F,F,F,F,F,F,F,F,F,F] rfl rfl (take_ofW HT_.out HW_.out (by kernel_rfl)) (fun _ _ _ h => h) (Or.inl ⟨by rfl, ?_⟩) hHeld ?_ ?_
      rotate_left
      ·rintro w' ⟨s0, s1, s2, s3, s4, s5, s6, s7, s8, s9, s10, s11, s12, s13, s14, s15, s16, s17, s18, s19⟩
       go_simp
       with_reducible rfl
      rotate_left
      ·simp only [Act.put, List.setIfInBounds_toArray, List.set_cons_zero, List.set_cons_succ, i64_w, i32_w]
       rfl
      refine pure_ (i := 9) (N := some 47) (v := ?_) (a' := ?_) #[T,T,T,T,T,T,T,T,T,T,F,F,F,F,F,F,F,F,F,F,F,F,F,F,F,F,F,F,F] rfl rfl (any_of HT_.out (by kernel_rfl)) (fun _ _ _ h => h) (Or.inl ⟨by rfl, ?_⟩) ?_ ?_
      rotate_left
      ·intro w'
       go_simp
       with_reducible rfl
      rotate_left
      ·simp only [Act.put, List.setIfInBounds_toArray, List.set_cons_zero, List.set_cons_succ, i64_w, i32_w]
       rfl
      refine pure_ (i := 10) (N := some 48) (v := ?_) (a' := ?_) #[T,T,T,T,T,T,T,T,T,T,T,F,F,F,F,F,F,F,F,F,F,F,F,F,F,F,F,F,F] rfl rfl (any_of HT_.out (by kernel_rfl)) (fun _ _ _ h => h) (Or.inl ⟨by rfl, ?_⟩) ?_ ?_
      rotate_left
      ·intro w'
       go_simp
       with_reducible rfl
      rotate_left
      ·simp only [Act.put, List.setIfInBounds_toArray, List.set_cons_zero, List.set_cons_succ, i64_w, i32_w]
       rfl
      refine pure_ (i := 11) (N := some 49) (v := ?_) (a' := ?_) #[T,T,T,T,T,T,T,T,T,T,T,T,F,F,F,F,F,F,F,F,F,F,F,F,F,F,F,F,F] rfl rfl (any_of HT_.out (by kernel_rfl)) (fun _ _ _ h => h) (Or.inl ⟨by rfl, ?_⟩) ?_ ?_
      rotate_left
      ·intro w'
       go_simp
       with_reducible rfl
      rotate_left
      ·simp only [Act.put, List.setIfInBounds_toArray, List.set_cons_zero, List.set_cons_succ, i64_w, i32_w]
       rfl
      refine pure_ (i := 14) (N := some 52) (v := ?_) (a' := ?_) #[T,T,T,T,T,T,T,T,T,T,T,T,F,F,T,F,F,F,F,F,F,F,F,F,F,F,F,F,F] rfl rfl (any_of HT_.out (by kernel_rfl)) (fun _ _ _ h => h) (Or.inl ⟨by rfl, ?_⟩) ?_ ?_
      rotate_left
      ·intro w'
       go_simp
       with_reducible rfl
      rotate_left
      ·simp only [Act.put, List.setIfInBounds_toArray, List.set_cons_zero, List.set_cons_succ, i64_w, i32_w]
       rfl
      refine take_ (i := 12) (N := some 50) (v := ?_) (a' := ?_) #[T,T,T,T,T,T,T,T,T,T,T,T,T,F,T,F,F,F,F,F,F,F,F,F,F,F,F,F,F] rfl rfl (take_ofW HT_.out HW_.out (by kernel_rfl)) (fun _ _ _ h => h) (Or.inl ⟨by rfl, ?_⟩) hHeld ?_ ?_
      rotate_left
      ·rintro w' ⟨s0, s1, s2, s3, s4, s5, s6, s7, s8, s9, s10, s11, s12, s13, s14, s15, s16, s17, s18, s19⟩
       go_simp
       with_reducible rfl
      rotate_left
      ·simp only [Act.put, List.setIfInBounds_toArray, List.set_cons_zero, List.set_cons_succ, i64_w, i32_w]
       rfl
      refine take_ (i := 15) (N := some 53) (v := ?_) (a' := ?_) #[T,T,T,T,T,T,T,T,T,T,T,T,T,F,T,T,F,F,F,F,F,F,F,F,F,F,F,F,F] rfl rfl (take_ofW HT_.out HW_.out (by kernel_rfl)) (fun _ _ _ h => h) (Or.inl ⟨by rfl, ?_⟩) hHeld ?_ ?_
      rotate_left
      ·rintro w' ⟨s0, s1, s2, s3, s4, s5, s6, s7, s8, s9, s10, s11, s12, s13, s14, s15, s16, s17, s18, s19⟩
       go_simp
       with_reducible rfl
      rotate_left
      ·simp only [Act.put, List.setIfInBounds_toArray, List.set_cons_zero, List.set_cons_succ, i64_w, i32_w]
       rfl
      refine one_ (i := 13) (N := some 51) #[T,T,T,T,T,T,T,T,T,T,T,T,T,T,T,T,F,F,F,F,F,F,F,F,F,F,F,F,F] rfl rfl (one_of HT_.out (by kernel_rfl)) (by decide) (fun K hK => ?_)
      refine goes_ Tryd.func16 (by kernel_rfl) rfl #[.agg #[.int .i64 t208, .int .i64 t209, .int .u8 t210, .int .i64 t211, .int .i64 t212, .int .i64 t213, .int .i64 t214, .bool t215]] (by rfl) rfl rfl (by (try simp only [List.map_toArray, List.map_cons, List.map_nil]); first | done | rfl | (simp only [List.length_drop, List.length_take]; rfl)) ?_
      with_reducible refine (cycle_Ended.calls t208 t209 t210 t211 t212 t213 t214 t215 t234 _ A14.out).mono ?_
      rintro e w35 ⟨rfl, hb⟩
      refine ⟨_, rfl, ?_⟩
      have n0_ := Aside0.mk (blk_below (g := gb216) (o := .cells #[.int .i64 t208, .int .i64 t209, .int .u8 t210, .int .i64 t211, .int .i64 t212, .int .i64 t213, .int .i64 t214, .bool t215] 25 (0, 0)) (by (with_reducible repeat (first | refine kN ?_ _ | refine kD ?_ | refine kA ?_ _)); exact BK216.out) hb)
      have n1_ := Aside0.mk (blk_below (g := gb224) (o := .cells #[.int .u8 t217, .int .i64 t218, .int .i64 t219, .int .i64 t220, .int .i64 t221, .int .u8 t222] 28 (0, 0)) (by (with_reducible repeat (first | refine kN ?_ _ | refine kD ?_ | refine kA ?_ _)); exact BK224.out) hb)
      have n2_ := Aside0.mk (blk_below (g := gb232) (o := .cells #[.int .u8 t225, .int .i64 t226, .int .i64 t227, .int .i64 t228, .int .i64 t229, .int .u8 t230] 28 (0, 0)) (by (with_reducible repeat (first | refine kN ?_ _ | refine kD ?_ | refine kA ?_ _)); exact BK232.out) hb)
      have n3_ := Aside0.mk (below_step (by repeat (first | (with_reducible first | exact HB.out | apply kL | apply kM | apply kE | refine kS ?_ GE216.out | refine kS ?_ GE224.out | refine kS ?_ GE232.out) | exact HB.out)) hb)
      clear BK216
      clear BK224
      clear BK232
      clear HB
      have BK216 := n0_
      have BK224 := n1_
      have BK232 := n2_
      have HB := n3_
      clear n0_ n1_ n2_ n3_
      (try clear hb)
      (try clear hb2)
      (try clear hk)
      (try clear hi)
      refine hK.out _ _ ⟨(kC BK224.out 0).trans rfl, (kC BK224.out 1).trans rfl, (kC BK224.out 2).trans rfl, (kC BK224.out 3).trans rfl, (kC BK224.out 4).trans rfl, (kC BK224.out 5).trans rfl, (kC BK232.out 0).trans rfl, (kC BK232.out 1).trans rfl, (kC BK232.out 2).trans rfl, (kC BK232.out 3).trans rfl, (kC BK232.out 4).trans rfl, (kC BK232.out 5).trans rfl, (kC BK216.out 0).trans rfl, (kC BK216.out 1).trans rfl, (kC BK216.out 2).trans rfl, (kC BK216.out 3).trans rfl, (kC BK216.out 4).trans rfl, (kC BK216.out 5).trans rfl, (kC BK216.out 6).trans rfl, (kC BK216.out 7).trans rfl⟩ (fun hHeld => ?_)
      clear hK K
      refine norm_ (a' := ?_) ?_ ?_
      rotate_left
      ·show Act.put _ (some 51) _ = _
       simp only [Act.put, List.setIfInBounds_toArray, List.set_cons_zero, List.set_cons_succ, i64_w, i32_w]
       rfl
      refine one_ (i := 16) (N := some 54) #[T,T,T,T,T,T,T,T,T,T,T,T,T,T,T,T,T,F,F,F,F,F,F,F,F,F,F,F,F] rfl rfl (one_of HT_.out (by kernel_rfl)) (by decide) (fun K hK => ?_)
      refine goes_ Tryd.func17 (by kernel_rfl) rfl #[.int .u8 t210] (by rfl) rfl rfl (by (try simp only [List.map_toArray, List.map_cons, List.map_nil]); first | done | rfl | (simp only [List.length_drop, List.length_take]; rfl)) ?_
      with_reducible refine (paybookref12_Ended.calls t210 t235 _ A15.out).mono ?_
      rintro e w' ⟨rfl, ⟨nd, rfl⟩⟩
      refine ⟨_, rfl, ?_⟩
      refine hK.out _ _ ⟨(kC BK224.out 0).trans rfl, (kC BK224.out 1).trans rfl, (kC BK224.out 2).trans rfl, (kC BK224.out 3).trans rfl, (kC BK224.out 4).trans rfl, (kC BK224.out 5).trans rfl, (kC BK232.out 0).trans rfl, (kC BK232.out 1).trans rfl, (kC BK232.out 2).trans rfl, (kC BK232.out 3).trans rfl, (kC BK232.out 4).trans rfl, (kC BK232.out 5).trans rfl, (kC BK216.out 0).trans rfl, (kC BK216.out 1).trans rfl, (kC BK216.out 2).trans rfl, (kC BK216.out 3).trans rfl, (kC BK216.out 4).trans rfl, (kC BK216.out 5).trans rfl, (kC BK216.out 6).trans rfl, (kC BK216.out 7).trans rfl⟩ (fun hHeld => ?_)
      clear hK K
      refine norm_ (a' := ?_) ?_ ?_
      rotate_left
      ·show Act.put _ (some 54) _ = _
       simp only [Act.put, List.setIfInBounds_toArray, List.set_cons_zero, List.set_cons_succ, i64_w, i32_w]
       rfl
      refine pure_ (i := 17) (N := some 55) (v := ?_) (a' := ?_) #[T,T,T,T,T,T,T,T,T,T,T,T,T,T,T,T,T,T,F,F,F,F,F,F,F,F,F,F,F] rfl rfl (any_of HT_.out (by kernel_rfl)) (fun _ _ _ h => h) (Or.inl ⟨by rfl, ?_⟩) ?_ ?_
      rotate_left
      ·intro w'
       go_simp
       with_reducible rfl
      rotate_left
      ·simp only [Act.put, List.setIfInBounds_toArray, List.set_cons_zero, List.set_cons_succ, i64_w, i32_w]
       rfl
      refine pure_ (i := 18) (N := some 56) (v := ?_) (a' := ?_) #[T,T,T,T,T,T,T,T,T,T,T,T,T,T,T,T,T,T,T,F,F,F,F,F,F,F,F,F,F] rfl rfl (any_of HT_.out (by kernel_rfl)) (fun _ _ _ h => h) (Or.inl ⟨by rfl, ?_⟩) ?_ ?_
      rotate_left
      ·intro w'
       go_simp
       with_reducible rfl
      rotate_left
      ·simp only [Act.put, List.setIfInBounds_toArray, List.set_cons_zero, List.set_cons_succ, i64_w, i32_w]
       rfl
      refine pure_ (i := 19) (N := some 57) (v := ?_) (a' := ?_) #[T,T,T,T,T,T,T,T,T,T,T,T,T,T,T,T,T,T,T,T,F,F,F,F,F,F,F,F,F] rfl rfl (any_of HT_.out (by kernel_rfl)) (fun _ _ _ h => h) (Or.inl ⟨by rfl, ?_⟩) ?_ ?_
      rotate_left
      ·intro w'
       go_simp
       with_reducible rfl
      rotate_left
      ·simp only [Act.put, List.setIfInBounds_toArray, List.set_cons_zero, List.set_cons_succ, i64_w, i32_w]
       rfl
      refine pure_ (i := 20) (N := some 58) (v := ?_) (a' := ?_) #[T,T,T,T,T,T,T,T,T,T,T,T,T,T,T,T,T,T,T,T,T,F,F,F,F,F,F,F,F] rfl rfl (any_of HT_.out (by kernel_rfl)) (fun _ _ _ h => h) (Or.inl ⟨by rfl, ?_⟩) ?_ ?_
      rotate_left
      ·intro w'
       go_simp
       with_reducible rfl
      rotate_left
      ·simp only [Act.put, List.setIfInBounds_toArray, List.set_cons_zero, List.set_cons_succ, i64_w, i32_w]
       rfl
      refine pure_ (i := 21) (N := some 59) (v := ?_) (a' := ?_) #[T,T,T,T,T,T,T,T,T,T,T,T,T,T,T,T,T,T,T,T,T,T,F,F,F,F,F,F,F] rfl rfl (any_of HT_.out (by kernel_rfl)) (fun _ _ _ h => h) (Or.inl ⟨by rfl, ?_⟩) ?_ ?_
      rotate_left
      ·intro w'
       go_simp
       with_reducible rfl
      rotate_left
      ·simp only [Act.put, List.setIfInBounds_toArray, List.set_cons_zero, List.set_cons_succ, i64_w, i32_w]
       rfl
      refine pure_ (i := 22) (N := some 60) (v := ?_) (a' := ?_) #[T,T,T,T,T,T,T,T,T,T,T,T,T,T,T,T,T,T,T,T,T,T,T,F,F,F,F,F,F] rfl rfl (any_of HT_.out (by kernel_rfl)) (fun _ _ _ h => h) (Or.inl ⟨by rfl, ?_⟩) ?_ ?_
      rotate_left
      ·intro w'
       go_simp
       with_reducible rfl
      rotate_left
      ·simp only [Act.put, List.setIfInBounds_toArray, List.set_cons_zero, List.set_cons_succ, i64_w, i32_w]
       rfl
      refine take_ (i := 23) (N := some 61) (v := ?_) (a' := ?_) #[T,T,T,T,T,T,T,T,T,T,T,T,T,T,T,T,T,T,T,T,T,T,T,T,F,F,F,F,F] rfl rfl (take_ofW HT_.out HW_.out (by kernel_rfl)) (fun _ _ _ h => h) (Or.inl ⟨by rfl, ?_⟩) hHeld ?_ ?_
      rotate_left
      ·rintro w' ⟨s0, s1, s2, s3, s4, s5, s6, s7, s8, s9, s10, s11, s12, s13, s14, s15, s16, s17, s18, s19⟩
       go_simp
       with_reducible rfl
      rotate_left
      ·simp only [Act.put, List.setIfInBounds_toArray, List.set_cons_zero, List.set_cons_succ, i64_w, i32_w]
       rfl
      refine one_ (i := 24) (N := some 62) #[T,T,T,T,T,T,T,T,T,T,T,T,T,T,T,T,T,T,T,T,T,T,T,T,T,F,F,F,F] rfl rfl (one_of HT_.out (by kernel_rfl)) (by decide) (fun K hK => ?_)
      refine goes_ Tryd.func16 (by kernel_rfl) rfl #[.agg #[.int .i64 t208, .int .i64 t209, .int .u8 t210, .int .i64 t211, .int .i64 t212, .int .i64 t213, .int .i64 t214, .bool t215]] (by rfl) rfl rfl (by (try simp only [List.map_toArray, List.map_cons, List.map_nil]); first | done | rfl | (simp only [List.length_drop, List.length_take]; rfl)) ?_
      with_reducible refine (cycle_Ended.calls t208 t209 t210 t211 t212 t213 t214 t215 t236 _ A18.out).mono ?_
      rintro e w36 ⟨rfl, hb⟩
      refine ⟨_, rfl, ?_⟩
      have n0_ := Aside0.mk (blk_below (g := gb216) (o := .cells #[.int .i64 t208, .int .i64 t209, .int .u8 t210, .int .i64 t211, .int .i64 t212, .int .i64 t213, .int .i64 t214, .bool t215] 25 (0, 0)) (by (with_reducible repeat (first | refine kN ?_ _ | refine kD ?_ | refine kA ?_ _)); exact BK216.out) hb)
      have n1_ := Aside0.mk (blk_below (g := gb224) (o := .cells #[.int .u8 t217, .int .i64 t218, .int .i64 t219, .int .i64 t220, .int .i64 t221, .int .u8 t222] 28 (0, 0)) (by (with_reducible repeat (first | refine kN ?_ _ | refine kD ?_ | refine kA ?_ _)); exact BK224.out) hb)
      have n2_ := Aside0.mk (blk_below (g := gb232) (o := .cells #[.int .u8 t225, .int .i64 t226, .int .i64 t227, .int .i64 t228, .int .i64 t229, .int .u8 t230] 28 (0, 0)) (by (with_reducible repeat (first | refine kN ?_ _ | refine kD ?_ | refine kA ?_ _)); exact BK232.out) hb)
      have n3_ := Aside0.mk (below_step (by repeat (first | (with_reducible first | exact HB.out | apply kL | apply kM | apply kE | refine kS ?_ GE216.out | refine kS ?_ GE224.out | refine kS ?_ GE232.out) | exact HB.out)) hb)
      clear BK216
      clear BK224
      clear BK232
      clear HB
      have BK216 := n0_
      have BK224 := n1_
      have BK232 := n2_
      have HB := n3_
      clear n0_ n1_ n2_ n3_
      (try clear hb)
      (try clear hb2)
      (try clear hk)
      (try clear hi)
      refine hK.out _ _ ⟨(kC BK224.out 0).trans rfl, (kC BK224.out 1).trans rfl, (kC BK224.out 2).trans rfl, (kC BK224.out 3).trans rfl, (kC BK224.out 4).trans rfl, (kC BK224.out 5).trans rfl, (kC BK232.out 0).trans rfl, (kC BK232.out 1).trans rfl, (kC BK232.out 2).trans rfl, (kC BK232.out 3).trans rfl, (kC BK232.out 4).trans rfl, (kC BK232.out 5).trans rfl, (kC BK216.out 0).trans rfl, (kC BK216.out 1).trans rfl, (kC BK216.out 2).trans rfl, (kC BK216.out 3).trans rfl, (kC BK216.out 4).trans rfl, (kC BK216.out 5).trans rfl, (kC BK216.out 6).trans rfl, (kC BK216.out 7).trans rfl⟩ (fun hHeld => ?_)
      clear hK K
      refine norm_ (a' := ?_) ?_ ?_
      rotate_left
      ·show Act.put _ (some 62) _ = _
       simp only [Act.put, List.setIfInBounds_toArray, List.set_cons_zero, List.set_cons_succ, i64_w, i32_w]
       rfl
      refine pure_ (i := 25) (N := some 63) (v := ?_) (a' := ?_) #[T,T,T,T,T,T,T,T,T,T,T,T,T,T,T,T,T,T,T,T,T,T,T,T,T,T,F,F,F] rfl rfl (any_of HT_.out (by kernel_rfl)) (fun _ _ _ h => h) (Or.inl ⟨by rfl, ?_⟩) ?_ ?_
      rotate_left
      ·intro w'
       go_simp
       with_reducible rfl
      rotate_left
      ·simp only [Act.put, List.setIfInBounds_toArray, List.set_cons_zero, List.set_cons_succ, i64_w, i32_w]
       rfl
      refine pure_ (i := 26) (N := some 64) (v := ?_) (a' := ?_) #[T,T,T,T,T,T,T,T,T,T,T,T,T,T,T,T,T,T,T,T,T,T,T,T,T,T,T,F,F] rfl rfl (any_of HT_.out (by kernel_rfl)) (fun _ _ _ h => h) (Or.inl ⟨by rfl, ?_⟩) ?_ ?_
      rotate_left
      ·intro w'
       go_simp
       with_reducible rfl
      rotate_left
      ·simp only [Act.put, List.setIfInBounds_toArray, List.set_cons_zero, List.set_cons_succ, i64_w, i32_w]
       rfl
      refine pure_ (i := 27) (N := some 65) (v := ?_) (a' := ?_) #[T,T,T,T,T,T,T,T,T,T,T,T,T,T,T,T,T,T,T,T,T,T,T,T,T,T,T,T,F] rfl rfl (any_of HT_.out (by kernel_rfl)) (fun _ _ _ h => h) (Or.inl ⟨by rfl, ?_⟩) ?_ ?_
      rotate_left
      ·intro w'
       go_simp
       with_reducible rfl
      rotate_left
      ·simp only [Act.put, List.setIfInBounds_toArray, List.set_cons_zero, List.set_cons_succ, i64_w, i32_w]
       rfl
      refine pure_ (i := 28) (N := some 12) (v := ?_) (a' := ?_) #[T,T,T,T,T,T,T,T,T,T,T,T,T,T,T,T,T,T,T,T,T,T,T,T,T,T,T,T,T] rfl rfl (any_of HT_.out (by kernel_rfl)) (fun _ _ _ h => h) (Or.inl ⟨by rfl, ?_⟩) ?_ ?_
      rotate_left
      ·intro w'
       go_simp
       with_reducible rfl
      rotate_left
      ·simp only [Act.put, List.setIfInBounds_toArray, List.set_cons_zero, List.set_cons_succ, i64_w, i32_w]
       rfl
      refine done_ (done_of HT_.out (by kernel_rfl)) ?_
      try go_wp2
      go_ret
      exact ⟨by first | rfl | (simp [errW_none, errW_some] <;> rfl) | (simp [*, errW_none, errW_some] <;> rfl), by repeat (first | (with_reducible first | exact HB.out | apply kL | apply kM | apply kE | refine kS ?_ GE216.out | refine kS ?_ GE224.out | refine kS ?_ GE232.out) | exact HB.out)⟩
     ·replace c17 := Bool.eq_false_iff.mpr c17
      subst c17
      have H1 : (some true) = some true := by rw [if_neg (show ¬ (false = true) by decide)] at H; try exact H
      clear H
      have H := H1
      clear H1
      (try (have c12b0z_ := c12b0; simp only [beq_true, beq_false, true_beq, false_beq, Bool.not_eq_true', Bool.not_eq_false', Bool.not_true, Bool.not_false] at c12b0z_))
      (try (have c12b2z_ := c12b2; simp only [beq_true, beq_false, true_beq, false_beq, Bool.not_eq_true', Bool.not_eq_false', Bool.not_true, Bool.not_false] at c12b2z_))
      clear H
      go_enter Tryd.func3, Tryd.ntmps3
      try go_wp2_with (first | ((with_reducible refine gate_callee (f := 12) rfl ?_); refine goesL_ (some 23) rfl rfl Tryd.func12 (by kernel_rfl) rfl #[.int .u8 a0, .int .u16 a1, .int .u16 9, .int .u32 a2, .int .i32 0, .int .u8 a3, .int .u16 3, .bool a5] rfl (by (try simp only [List.map_toArray, List.map_cons, List.map_nil]); first | done | rfl | (simp only [List.length_drop, List.length_take]; rfl)) ?_; (with_reducible refine (paybooklaw12_at.calls k a0 a1 9 a2 0 a3 3 a5 t208 t209 t210 t211 t212 t213 t214 t215 _ A7.out).mono ?_); rintro e w37 ⟨rfl, hb⟩; refine ⟨_, rfl, ?_⟩; have n0_ := Aside0.mk (below_step (by repeat (first | (with_reducible first | exact HB.out | apply kL | apply kM | apply kE) | exact HB.out)) hb); clear HB; have HB := n0_; clear n0_; (try clear hb); (try clear hb2); (try clear hk); (try clear hi)) | ((with_reducible refine gate_dst (N := 13) rfl ?_); refine box_event ?hg (N := 13) ?hd (cs := #[.int .i64 0, .int .i64 0, .int .u8 0, .int .i64 0, .int .i64 0, .int .i64 0, .int .i64 0, .bool false]) (t := 25) ?hr ?_; (case hd => rfl); (case hg => rfl); (case hr => first | (go_simp; done) | (go_simp; rfl)); intro gb216 hg w38 hbox hb; have n0_ := Aside0.mk (below_step (by repeat (first | (with_reducible first | exact HB.out | apply kL | apply kM | apply kE) | exact HB.out)) hb); have n1_ := Aside0.mk (hbox); have n2_ := Aside0.mk ((by rw [hg]; exact (below_size (by repeat (first | (with_reducible first | exact HB.out | apply kL | apply kM | apply kE) | exact HB.out))) : w.heap.size ≤ gb216)); have n3_ := Aside0.mk ((by rw [hg]; exact (below_size (by repeat (first | (with_reducible first | exact HB.out | apply kL | apply kM | apply kE) | exact HB.out))) : w.heap.size ≤ gb216)); clear HB; have HB := n0_; have BK216 := n1_; have GW216 := n2_; have GE216 := n3_; clear n0_ n1_ n2_ n3_; clear hb hbox hg; have hcz39_0 : w38.cell? ⟨gb216, 0, none⟩ = some (.int .i64 0) := (kC BK216.out 0).trans rfl; have hcz39_1 : w38.cell? ⟨gb216, 1, none⟩ = some (.int .i64 0) := (kC BK216.out 1).trans rfl; have hcz39_2 : w38.cell? ⟨gb216, 2, none⟩ = some (.int .u8 0) := (kC BK216.out 2).trans rfl; have hcz39_3 : w38.cell? ⟨gb216, 3, none⟩ = some (.int .i64 0) := (kC BK216.out 3).trans rfl; have hcz39_4 : w38.cell? ⟨gb216, 4, none⟩ = some (.int .i64 0) := (kC BK216.out 4).trans rfl; have hcz39_5 : w38.cell? ⟨gb216, 5, none⟩ = some (.int .i64 0) := (kC BK216.out 5).trans rfl; have hcz39_6 : w38.cell? ⟨gb216, 6, none⟩ = some (.int .i64 0) := (kC BK216.out 6).trans rfl; have hcz39_7 : w38.cell? ⟨gb216, 7, none⟩ = some (.bool false) := (kC BK216.out 7).trans rfl; have hfz39_0 := kF BK216.out 0; have hfz39_1 := kF BK216.out 1; have hfz39_2 := kF BK216.out 2; have hfz39_3 := kF BK216.out 3; have hfz39_4 := kF BK216.out 4; have hfz39_5 := kF BK216.out 5; have hfz39_6 := kF BK216.out 6; have hfz39_7 := kF BK216.out 7) | ((with_reducible refine gate_dst (N := 27) rfl ?_); refine wpList_load_row rfl 25 (.tmp 13) rfl gb216 rfl 25 #[.int .i64 t208, .int .i64 t209, .int .u8 t210, .int .i64 t211, .int .i64 t212, .int .i64 t213, .int .i64 t214, .bool t215] (0, 0) _ (by (with_reducible repeat (first | refine kN ?_ _ | refine kD ?_ | refine kA ?_ _)); refine kP (cs := #[.int .i64 t208, .int .i64 t209, .int .u8 t210, .int .i64 t211, .int .i64 t212, .int .i64 t213, .int .i64 t214, .bool false]) ?_ 7 _ rfl; (with_reducible repeat (first | refine kN ?_ _ | refine kD ?_ | refine kA ?_ _)); refine kP (cs := #[.int .i64 t208, .int .i64 t209, .int .u8 t210, .int .i64 t211, .int .i64 t212, .int .i64 t213, .int .i64 0, .bool false]) ?_ 6 _ rfl; (with_reducible repeat (first | refine kN ?_ _ | refine kD ?_ | refine kA ?_ _)); refine kP (cs := #[.int .i64 t208, .int .i64 t209, .int .u8 t210, .int .i64 t211, .int .i64 t212, .int .i64 0, .int .i64 0, .bool false]) ?_ 5 _ rfl; (with_reducible repeat (first | refine kN ?_ _ | refine kD ?_ | refine kA ?_ _)); refine kP (cs := #[.int .i64 t208, .int .i64 t209, .int .u8 t210, .int .i64 t211, .int .i64 0, .int .i64 0, .int .i64 0, .bool false]) ?_ 4 _ rfl; (with_reducible repeat (first | refine kN ?_ _ | refine kD ?_ | refine kA ?_ _)); refine kP (cs := #[.int .i64 t208, .int .i64 t209, .int .u8 t210, .int .i64 0, .int .i64 0, .int .i64 0, .int .i64 0, .bool false]) ?_ 3 _ rfl; (with_reducible repeat (first | refine kN ?_ _ | refine kD ?_ | refine kA ?_ _)); refine kP (cs := #[.int .i64 t208, .int .i64 t209, .int .u8 0, .int .i64 0, .int .i64 0, .int .i64 0, .int .i64 0, .bool false]) ?_ 2 _ rfl; (with_reducible repeat (first | refine kN ?_ _ | refine kD ?_ | refine kA ?_ _)); refine kP (cs := #[.int .i64 t208, .int .i64 0, .int .u8 0, .int .i64 0, .int .i64 0, .int .i64 0, .int .i64 0, .bool false]) ?_ 1 _ rfl; (with_reducible repeat (first | refine kN ?_ _ | refine kD ?_ | refine kA ?_ _)); refine kP (cs := #[.int .i64 0, .int .i64 0, .int .u8 0, .int .i64 0, .int .i64 0, .int .i64 0, .int .i64 0, .bool false]) ?_ 0 _ rfl; (with_reducible repeat (first | refine kN ?_ _ | refine kD ?_ | refine kA ?_ _)); exact BK216.out) Tryd.underlying25 rfl (by kernel_rfl) ?_) | ((with_reducible refine gate_callee (f := 13) rfl ?_); refine goesL_ (some 28) rfl rfl Tryd.func13 (by kernel_rfl) rfl #[.int .i64 (wrap64 (a4)), .agg #[.int .i64 t208, .int .i64 t209, .int .u8 t210, .int .i64 t211, .int .i64 t212, .int .i64 t213, .int .i64 t214, .bool t215]] rfl (by (try simp only [List.map_toArray, List.map_cons, List.map_nil]); first | done | rfl | (simp only [List.length_drop, List.length_take]; rfl)) ?_; (with_reducible refine (cycle_Asks.calls (wrap64 (a4)) t208 t209 t210 t211 t212 t213 t214 t215 t217 t218 t219 t220 t221 t222 false _ A8.out).mono ?_); rintro e w40 ⟨rfl, hb⟩; refine ⟨_, rfl, ?_⟩; have n0_ := Aside0.mk (blk_below (g := gb216) (o := .cells #[.int .i64 t208, .int .i64 t209, .int .u8 t210, .int .i64 t211, .int .i64 t212, .int .i64 t213, .int .i64 t214, .bool t215] 25 (0, 0)) (by (with_reducible repeat (first | refine kN ?_ _ | refine kD ?_ | refine kA ?_ _)); refine kP (cs := #[.int .i64 t208, .int .i64 t209, .int .u8 t210, .int .i64 t211, .int .i64 t212, .int .i64 t213, .int .i64 t214, .bool false]) ?_ 7 _ rfl; (with_reducible repeat (first | refine kN ?_ _ | refine kD ?_ | refine kA ?_ _)); refine kP (cs := #[.int .i64 t208, .int .i64 t209, .int .u8 t210, .int .i64 t211, .int .i64 t212, .int .i64 t213, .int .i64 0, .bool false]) ?_ 6 _ rfl; (with_reducible repeat (first | refine kN ?_ _ | refine kD ?_ | refine kA ?_ _)); refine kP (cs := #[.int .i64 t208, .int .i64 t209, .int .u8 t210, .int .i64 t211, .int .i64 t212, .int .i64 0, .int .i64 0, .bool false]) ?_ 5 _ rfl; (with_reducible repeat (first | refine kN ?_ _ | refine kD ?_ | refine kA ?_ _)); refine kP (cs := #[.int .i64 t208, .int .i64 t209, .int .u8 t210, .int .i64 t211, .int .i64 0, .int .i64 0, .int .i64 0, .bool false]) ?_ 4 _ rfl; (with_reducible repeat (first | refine kN ?_ _ | refine kD ?_ | refine kA ?_ _)); refine kP (cs := #[.int .i64 t208, .int .i64 t209, .int .u8 t210, .int .i64 0, .int .i64 0, .int .i64 0, .int .i64 0, .bool false]) ?_ 3 _ rfl; (with_reducible repeat (first | refine kN ?_ _ | refine kD ?_ | refine kA ?_ _)); refine kP (cs := #[.int .i64 t208, .int .i64 t209, .int .u8 0, .int .i64 0, .int .i64 0, .int .i64 0, .int .i64 0, .bool false]) ?_ 2 _ rfl; (with_reducible repeat (first | refine kN ?_ _ | refine kD ?_ | refine kA ?_ _)); refine kP (cs := #[.int .i64 t208, .int .i64 0, .int .u8 0, .int .i64 0, .int .i64 0, .int .i64 0, .int .i64 0, .bool false]) ?_ 1 _ rfl; (with_reducible repeat (first | refine kN ?_ _ | refine kD ?_ | refine kA ?_ _)); refine kP (cs := #[.int .i64 0, .int .i64 0, .int .u8 0, .int .i64 0, .int .i64 0, .int .i64 0, .int .i64 0, .bool false]) ?_ 0 _ rfl; (with_reducible repeat (first | refine kN ?_ _ | refine kD ?_ | refine kA ?_ _)); exact BK216.out) hb); have n1_ := Aside0.mk (below_step (by repeat (first | (with_reducible first | exact HB.out | apply kL | apply kM | apply kE | refine kS ?_ GE216.out) | exact HB.out)) hb); clear BK216; clear HB; have BK216 := n0_; have HB := n1_; clear n0_ n1_; (try clear hb); (try clear hb2); (try clear hk); (try clear hi)) | ((with_reducible refine gate_dst (N := 14) rfl ?_); refine box_event ?hg (N := 14) ?hd (cs := #[.int .u8 0, .int .i64 0, .int .i64 0, .int .i64 0, .int .i64 0, .int .u8 0]) (t := 28) ?hr ?_; (case hd => rfl); (case hg => rfl); (case hr => first | (go_simp; done) | (go_simp; rfl)); intro gb224 hg w41 hbox hb; have n0_ := Aside0.mk (blk_below (g := gb216) (o := .cells #[.int .i64 t208, .int .i64 t209, .int .u8 t210, .int .i64 t211, .int .i64 t212, .int .i64 t213, .int .i64 t214, .bool t215] 25 (0, 0)) (by (with_reducible repeat (first | refine kN ?_ _ | refine kD ?_ | refine kA ?_ _)); exact BK216.out) hb); have n1_ := Aside0.mk (below_step (by repeat (first | (with_reducible first | exact HB.out | apply kL | apply kM | apply kE | refine kS ?_ GE216.out) | exact HB.out)) hb); have n2_ := Aside0.mk (hbox); have n3_ := Aside0.mk ((by rw [hg]; exact (below_size (by repeat (first | (with_reducible first | exact HB.out | apply kL | apply kM | apply kE | refine kS ?_ GE216.out) | exact HB.out))) : w.heap.size ≤ gb224)); have n4_ := Aside0.mk ((by rw [hg]; exact (below_size (by repeat (first | (with_reducible first | exact HB.out | apply kL | apply kM | apply kE | refine kS ?_ GE216.out) | exact HB.out))) : w.heap.size ≤ gb224)); have n5_ := Aside0.mk ((by rw [hg]; exact Nat.ne_of_lt (blk_lt (g := gb216) (o := .cells #[.int .i64 t208, .int .i64 t209, .int .u8 t210, .int .i64 t211, .int .i64 t212, .int .i64 t213, .int .i64 t214, .bool t215] 25 (0, 0)) (by (with_reducible repeat (first | refine kN ?_ _ | refine kD ?_ | refine kA ?_ _)); exact BK216.out)) : gb216 ≠ gb224)); have n6_ := Aside0.mk ((by rw [hg]; exact Nat.ne_of_gt (blk_lt (g := gb216) (o := .cells #[.int .i64 t208, .int .i64 t209, .int .u8 t210, .int .i64 t211, .int .i64 t212, .int .i64 t213, .int .i64 t214, .bool t215] 25 (0, 0)) (by (with_reducible repeat (first | refine kN ?_ _ | refine kD ?_ | refine kA ?_ _)); exact BK216.out)) : gb224 ≠ gb216)); clear BK216; clear HB; have BK216 := n0_; have HB := n1_; have BK224 := n2_; have GW224 := n3_; have GE224 := n4_; have NB216_224 := n5_; have NB224_216 := n6_; clear n0_ n1_ n2_ n3_ n4_ n5_ n6_; clear hb hbox hg; have hnb42 := NB224_216.out; have hnc42 := NB216_224.out; have hcz43_0 : w41.cell? ⟨gb224, 0, none⟩ = some (.int .u8 0) := (kC BK224.out 0).trans rfl; have hcz43_1 : w41.cell? ⟨gb224, 1, none⟩ = some (.int .i64 0) := (kC BK224.out 1).trans rfl; have hcz43_2 : w41.cell? ⟨gb224, 2, none⟩ = some (.int .i64 0) := (kC BK224.out 2).trans rfl; have hcz43_3 : w41.cell? ⟨gb224, 3, none⟩ = some (.int .i64 0) := (kC BK224.out 3).trans rfl; have hcz43_4 : w41.cell? ⟨gb224, 4, none⟩ = some (.int .i64 0) := (kC BK224.out 4).trans rfl; have hcz43_5 : w41.cell? ⟨gb224, 5, none⟩ = some (.int .u8 0) := (kC BK224.out 5).trans rfl; have hfz43_0 := kF BK224.out 0; have hfz43_1 := kF BK224.out 1; have hfz43_2 := kF BK224.out 2; have hfz43_3 := kF BK224.out 3; have hfz43_4 := kF BK224.out 4; have hfz43_5 := kF BK224.out 5; have hcz44_0 : w41.cell? ⟨gb216, 0, none⟩ = some (.int .i64 t208) := (kC BK216.out 0).trans rfl; have hcz44_1 : w41.cell? ⟨gb216, 1, none⟩ = some (.int .i64 t209) := (kC BK216.out 1).trans rfl; have hcz44_2 : w41.cell? ⟨gb216, 2, none⟩ = some (.int .u8 t210) := (kC BK216.out 2).trans rfl; have hcz44_3 : w41.cell? ⟨gb216, 3, none⟩ = some (.int .i64 t211) := (kC BK216.out 3).trans rfl; have hcz44_4 : w41.cell? ⟨gb216, 4, none⟩ = some (.int .i64 t212) := (kC BK216.out 4).trans rfl; have hcz44_5 : w41.cell? ⟨gb216, 5, none⟩ = some (.int .i64 t213) := (kC BK216.out 5).trans rfl; have hcz44_6 : w41.cell? ⟨gb216, 6, none⟩ = some (.int .i64 t214) := (kC BK216.out 6).trans rfl; have hcz44_7 : w41.cell? ⟨gb216, 7, none⟩ = some (.bool t215) := (kC BK216.out 7).trans rfl; have hfz44_0 := kF BK216.out 0; have hfz44_1 := kF BK216.out 1; have hfz44_2 := kF BK216.out 2; have hfz44_3 := kF BK216.out 3; have hfz44_4 := kF BK216.out 4; have hfz44_5 := kF BK216.out 5; have hfz44_6 := kF BK216.out 6; have hfz44_7 := kF BK216.out 7) | ((with_reducible refine gate_dst (N := 34) rfl ?_); refine wpList_load_row rfl 25 (.tmp 13) rfl gb216 rfl 25 #[.int .i64 t208, .int .i64 t209, .int .u8 t210, .int .i64 t211, .int .i64 t212, .int .i64 t213, .int .i64 t214, .bool t215] (0, 0) _ (by (with_reducible repeat (first | refine kN ?_ _ | refine kD ?_ | refine kA ?_ _)); refine kR ?_ NB216_224.out _; (with_reducible repeat (first | refine kN ?_ _ | refine kD ?_ | refine kA ?_ _)); refine kR ?_ NB216_224.out _; (with_reducible repeat (first | refine kN ?_ _ | refine kD ?_ | refine kA ?_ _)); refine kR ?_ NB216_224.out _; (with_reducible repeat (first | refine kN ?_ _ | refine kD ?_ | refine kA ?_ _)); refine kR ?_ NB216_224.out _; (with_reducible repeat (first | refine kN ?_ _ | refine kD ?_ | refine kA ?_ _)); refine kR ?_ NB216_224.out _; (with_reducible repeat (first | refine kN ?_ _ | refine kD ?_ | refine kA ?_ _)); refine kR ?_ NB216_224.out _; (with_reducible repeat (first | refine kN ?_ _ | refine kD ?_ | refine kA ?_ _)); exact BK216.out) Tryd.underlying25 rfl (by kernel_rfl) ?_) | ((with_reducible refine gate_callee (f := 14) rfl ?_); refine goesL_ (some 35) rfl rfl Tryd.func14 (by kernel_rfl) rfl #[.int .i64 (wrap64 (a4)), .agg #[.int .i64 t208, .int .i64 t209, .int .u8 t210, .int .i64 t211, .int .i64 t212, .int .i64 t213, .int .i64 t214, .bool t215]] rfl (by (try simp only [List.map_toArray, List.map_cons, List.map_nil]); first | done | rfl | (simp only [List.length_drop, List.length_take]; rfl)) ?_; (with_reducible refine (paybookref12_Asks.calls (wrap64 (a4)) t208 t209 t210 t211 t212 t213 t214 t215 t225 t226 t227 t228 t229 t230 t231 _ A9.out).mono ?_); rintro e w45 ⟨rfl, hb⟩; refine ⟨_, rfl, ?_⟩; have n0_ := Aside0.mk (blk_below (g := gb216) (o := .cells #[.int .i64 t208, .int .i64 t209, .int .u8 t210, .int .i64 t211, .int .i64 t212, .int .i64 t213, .int .i64 t214, .bool t215] 25 (0, 0)) (by (with_reducible repeat (first | refine kN ?_ _ | refine kD ?_ | refine kA ?_ _)); refine kR ?_ NB216_224.out _; (with_reducible repeat (first | refine kN ?_ _ | refine kD ?_ | refine kA ?_ _)); refine kR ?_ NB216_224.out _; (with_reducible repeat (first | refine kN ?_ _ | refine kD ?_ | refine kA ?_ _)); refine kR ?_ NB216_224.out _; (with_reducible repeat (first | refine kN ?_ _ | refine kD ?_ | refine kA ?_ _)); refine kR ?_ NB216_224.out _; (with_reducible repeat (first | refine kN ?_ _ | refine kD ?_ | refine kA ?_ _)); refine kR ?_ NB216_224.out _; (with_reducible repeat (first | refine kN ?_ _ | refine kD ?_ | refine kA ?_ _)); refine kR ?_ NB216_224.out _; (with_reducible repeat (first | refine kN ?_ _ | refine kD ?_ | refine kA ?_ _)); exact BK216.out) hb); have n1_ := Aside0.mk (blk_below (g := gb224) (o := .cells #[.int .u8 t217, .int .i64 t218, .int .i64 t219, .int .i64 t220, .int .i64 t221, .int .u8 t222] 28 (0, 0)) (by (with_reducible repeat (first | refine kN ?_ _ | refine kD ?_ | refine kA ?_ _)); refine kP (cs := #[.int .u8 t217, .int .i64 t218, .int .i64 t219, .int .i64 t220, .int .i64 t221, .int .u8 0]) ?_ 5 _ rfl; (with_reducible repeat (first | refine kN ?_ _ | refine kD ?_ | refine kA ?_ _)); refine kP (cs := #[.int .u8 t217, .int .i64 t218, .int .i64 t219, .int .i64 t220, .int .i64 0, .int .u8 0]) ?_ 4 _ rfl; (with_reducible repeat (first | refine kN ?_ _ | refine kD ?_ | refine kA ?_ _)); refine kP (cs := #[.int .u8 t217, .int .i64 t218, .int .i64 t219, .int .i64 0, .int .i64 0, .int .u8 0]) ?_ 3 _ rfl; (with_reducible repeat (first | refine kN ?_ _ | refine kD ?_ | refine kA ?_ _)); refine kP (cs := #[.int .u8 t217, .int .i64 t218, .int .i64 0, .int .i64 0, .int .i64 0, .int .u8 0]) ?_ 2 _ rfl; (with_reducible repeat (first | refine kN ?_ _ | refine kD ?_ | refine kA ?_ _)); refine kP (cs := #[.int .u8 t217, .int .i64 0, .int .i64 0, .int .i64 0, .int .i64 0, .int .u8 0]) ?_ 1 _ rfl; (with_reducible repeat (first | refine kN ?_ _ | refine kD ?_ | refine kA ?_ _)); refine kP (cs := #[.int .u8 0, .int .i64 0, .int .i64 0, .int .i64 0, .int .i64 0, .int .u8 0]) ?_ 0 _ rfl; (with_reducible repeat (first | refine kN ?_ _ | refine kD ?_ | refine kA ?_ _)); exact BK224.out) hb); have n2_ := Aside0.mk (below_step (by repeat (first | (with_reducible first | exact HB.out | apply kL | apply kM | apply kE | refine kS ?_ GE216.out | refine kS ?_ GE224.out) | exact HB.out)) hb); clear BK216; clear BK224; clear HB; have BK216 := n0_; have BK224 := n1_; have HB := n2_; clear n0_ n1_ n2_; (try clear hb); (try clear hb2); (try clear hk); (try clear hi)) | ((with_reducible refine gate_dst (N := 16) rfl ?_); refine box_event ?hg (N := 16) ?hd (cs := #[.int .u8 0, .int .i64 0, .int .i64 0, .int .i64 0, .int .i64 0, .int .u8 0]) (t := 28) ?hr ?_; (case hd => rfl); (case hg => rfl); (case hr => first | (go_simp; done) | (go_simp; rfl)); intro gb232 hg w46 hbox hb; have n0_ := Aside0.mk (blk_below (g := gb216) (o := .cells #[.int .i64 t208, .int .i64 t209, .int .u8 t210, .int .i64 t211, .int .i64 t212, .int .i64 t213, .int .i64 t214, .bool t215] 25 (0, 0)) (by (with_reducible repeat (first | refine kN ?_ _ | refine kD ?_ | refine kA ?_ _)); exact BK216.out) hb); have n1_ := Aside0.mk (blk_below (g := gb224) (o := .cells #[.int .u8 t217, .int .i64 t218, .int .i64 t219, .int .i64 t220, .int .i64 t221, .int .u8 t222] 28 (0, 0)) (by (with_reducible repeat (first | refine kN ?_ _ | refine kD ?_ | refine kA ?_ _)); exact BK224.out) hb); have n2_ := Aside0.mk (below_step (by repeat (first | (with_reducible first | exact HB.out | apply kL | apply kM | apply kE | refine kS ?_ GE216.out | refine kS ?_ GE224.out) | exact HB.out)) hb); have n3_ := Aside0.mk (hbox); have n4_ := Aside0.mk ((by rw [hg]; exact (below_size (by repeat (first | (with_reducible first | exact HB.out | apply kL | apply kM | apply kE | refine kS ?_ GE216.out | refine kS ?_ GE224.out) | exact HB.out))) : w.heap.size ≤ gb232)); have n5_ := Aside0.mk ((by rw [hg]; exact (below_size (by repeat (first | (with_reducible first | exact HB.out | apply kL | apply kM | apply kE | refine kS ?_ GE216.out | refine kS ?_ GE224.out) | exact HB.out))) : w.heap.size ≤ gb232)); have n6_ := Aside0.mk ((by rw [hg]; exact Nat.ne_of_lt (blk_lt (g := gb216) (o := .cells #[.int .i64 t208, .int .i64 t209, .int .u8 t210, .int .i64 t211, .int .i64 t212, .int .i64 t213, .int .i64 t214, .bool t215] 25 (0, 0)) (by (with_reducible repeat (first | refine kN ?_ _ | refine kD ?_ | refine kA ?_ _)); exact BK216.out)) : gb216 ≠ gb232)); have n7_ := Aside0.mk ((by rw [hg]; exact Nat.ne_of_gt (blk_lt (g := gb216) (o := .cells #[.int .i64 t208, .int .i64 t209, .int .u8 t210, .int .i64 t211, .int .i64 t212, .int .i64 t213, .int .i64 t214, .bool t215] 25 (0, 0)) (by (with_reducible repeat (first | refine kN ?_ _ | refine kD ?_ | refine kA ?_ _)); exact BK216.out)) : gb232 ≠ gb216)); have n8_ := Aside0.mk ((by rw [hg]; exact Nat.ne_of_lt (blk_lt (g := gb224) (o := .cells #[.int .u8 t217, .int .i64 t218, .int .i64 t219, .int .i64 t220, .int .i64 t221, .int .u8 t222] 28 (0, 0)) (by (with_reducible repeat (first | refine kN ?_ _ | refine kD ?_ | refine kA ?_ _)); exact BK224.out)) : gb224 ≠ gb232)); have n9_ := Aside0.mk ((by rw [hg]; exact Nat.ne_of_gt (blk_lt (g := gb224) (o := .cells #[.int .u8 t217, .int .i64 t218, .int .i64 t219, .int .i64 t220, .int .i64 t221, .int .u8 t222] 28 (0, 0)) (by (with_reducible repeat (first | refine kN ?_ _ | refine kD ?_ | refine kA ?_ _)); exact BK224.out)) : gb232 ≠ gb224)); clear BK216; clear BK224; clear HB; have BK216 := n0_; have BK224 := n1_; have HB := n2_; have BK232 := n3_; have GW232 := n4_; have GE232 := n5_; have NB216_232 := n6_; have NB232_216 := n7_; have NB224_232 := n8_; have NB232_224 := n9_; clear n0_ n1_ n2_ n3_ n4_ n5_ n6_ n7_ n8_ n9_; clear hb hbox hg; have hnb47 := NB232_216.out; have hnc47 := NB216_232.out; have hnb48 := NB232_224.out; have hnc48 := NB224_232.out; have hcz49_0 : w46.cell? ⟨gb232, 0, none⟩ = some (.int .u8 0) := (kC BK232.out 0).trans rfl; have hcz49_1 : w46.cell? ⟨gb232, 1, none⟩ = some (.int .i64 0) := (kC BK232.out 1).trans rfl; have hcz49_2 : w46.cell? ⟨gb232, 2, none⟩ = some (.int .i64 0) := (kC BK232.out 2).trans rfl; have hcz49_3 : w46.cell? ⟨gb232, 3, none⟩ = some (.int .i64 0) := (kC BK232.out 3).trans rfl; have hcz49_4 : w46.cell? ⟨gb232, 4, none⟩ = some (.int .i64 0) := (kC BK232.out 4).trans rfl; have hcz49_5 : w46.cell? ⟨gb232, 5, none⟩ = some (.int .u8 0) := (kC BK232.out 5).trans rfl; have hfz49_0 := kF BK232.out 0; have hfz49_1 := kF BK232.out 1; have hfz49_2 := kF BK232.out 2; have hfz49_3 := kF BK232.out 3; have hfz49_4 := kF BK232.out 4; have hfz49_5 := kF BK232.out 5))
      have n0_ : Aside0 (((((((w46.setCell ⟨gb232, 0, none⟩ (.int .u8 t225)).setCell ⟨gb232, 1, none⟩ (.int .i64 t226)).setCell ⟨gb232, 2, none⟩ (.int .i64 t227)).setCell ⟨gb232, 3, none⟩ (.int .i64 t228)).setCell ⟨gb232, 4, none⟩ (.int .i64 t229)).setCell ⟨gb232, 5, none⟩ (.int .u8 t230)).heap[gb216]? = some (.cells #[.int .i64 t208, .int .i64 t209, .int .u8 t210, .int .i64 t211, .int .i64 t212, .int .i64 t213, .int .i64 t214, .bool t215] 25 (0, 0))) := ⟨by (with_reducible repeat (first | refine kN ?_ _ | refine kD ?_ | refine kA ?_ _)); refine kR ?_ NB216_232.out _; (with_reducible repeat (first | refine kN ?_ _ | refine kD ?_ | refine kA ?_ _)); refine kR ?_ NB216_232.out _; (with_reducible repeat (first | refine kN ?_ _ | refine kD ?_ | refine kA ?_ _)); refine kR ?_ NB216_232.out _; (with_reducible repeat (first | refine kN ?_ _ | refine kD ?_ | refine kA ?_ _)); refine kR ?_ NB216_232.out _; (with_reducible repeat (first | refine kN ?_ _ | refine kD ?_ | refine kA ?_ _)); refine kR ?_ NB216_232.out _; (with_reducible repeat (first | refine kN ?_ _ | refine kD ?_ | refine kA ?_ _)); refine kR ?_ NB216_232.out _; (with_reducible repeat (first | refine kN ?_ _ | refine kD ?_ | refine kA ?_ _)); exact BK216.out⟩
      have n1_ : Aside0 (((((((w46.setCell ⟨gb232, 0, none⟩ (.int .u8 t225)).setCell ⟨gb232, 1, none⟩ (.int .i64 t226)).setCell ⟨gb232, 2, none⟩ (.int .i64 t227)).setCell ⟨gb232, 3, none⟩ (.int .i64 t228)).setCell ⟨gb232, 4, none⟩ (.int .i64 t229)).setCell ⟨gb232, 5, none⟩ (.int .u8 t230)).heap[gb224]? = some (.cells #[.int .u8 t217, .int .i64 t218, .int .i64 t219, .int .i64 t220, .int .i64 t221, .int .u8 t222] 28 (0, 0))) := ⟨by (with_reducible repeat (first | refine kN ?_ _ | refine kD ?_ | refine kA ?_ _)); refine kR ?_ NB224_232.out _; (with_reducible repeat (first | refine kN ?_ _ | refine kD ?_ | refine kA ?_ _)); refine kR ?_ NB224_232.out _; (with_reducible repeat (first | refine kN ?_ _ | refine kD ?_ | refine kA ?_ _)); refine kR ?_ NB224_232.out _; (with_reducible repeat (first | refine kN ?_ _ | refine kD ?_ | refine kA ?_ _)); refine kR ?_ NB224_232.out _; (with_reducible repeat (first | refine kN ?_ _ | refine kD ?_ | refine kA ?_ _)); refine kR ?_ NB224_232.out _; (with_reducible repeat (first | refine kN ?_ _ | refine kD ?_ | refine kA ?_ _)); refine kR ?_ NB224_232.out _; (with_reducible repeat (first | refine kN ?_ _ | refine kD ?_ | refine kA ?_ _)); exact BK224.out⟩
      have n2_ : Aside0 (((((((w46.setCell ⟨gb232, 0, none⟩ (.int .u8 t225)).setCell ⟨gb232, 1, none⟩ (.int .i64 t226)).setCell ⟨gb232, 2, none⟩ (.int .i64 t227)).setCell ⟨gb232, 3, none⟩ (.int .i64 t228)).setCell ⟨gb232, 4, none⟩ (.int .i64 t229)).setCell ⟨gb232, 5, none⟩ (.int .u8 t230)).heap[gb232]? = some (.cells #[.int .u8 t225, .int .i64 t226, .int .i64 t227, .int .i64 t228, .int .i64 t229, .int .u8 t230] 28 (0, 0))) := ⟨by (with_reducible repeat (first | refine kN ?_ _ | refine kD ?_ | refine kA ?_ _)); refine kP (cs := #[.int .u8 t225, .int .i64 t226, .int .i64 t227, .int .i64 t228, .int .i64 t229, .int .u8 0]) ?_ 5 _ rfl; (with_reducible repeat (first | refine kN ?_ _ | refine kD ?_ | refine kA ?_ _)); refine kP (cs := #[.int .u8 t225, .int .i64 t226, .int .i64 t227, .int .i64 t228, .int .i64 0, .int .u8 0]) ?_ 4 _ rfl; (with_reducible repeat (first | refine kN ?_ _ | refine kD ?_ | refine kA ?_ _)); refine kP (cs := #[.int .u8 t225, .int .i64 t226, .int .i64 t227, .int .i64 0, .int .i64 0, .int .u8 0]) ?_ 3 _ rfl; (with_reducible repeat (first | refine kN ?_ _ | refine kD ?_ | refine kA ?_ _)); refine kP (cs := #[.int .u8 t225, .int .i64 t226, .int .i64 0, .int .i64 0, .int .i64 0, .int .u8 0]) ?_ 2 _ rfl; (with_reducible repeat (first | refine kN ?_ _ | refine kD ?_ | refine kA ?_ _)); refine kP (cs := #[.int .u8 t225, .int .i64 0, .int .i64 0, .int .i64 0, .int .i64 0, .int .u8 0]) ?_ 1 _ rfl; (with_reducible repeat (first | refine kN ?_ _ | refine kD ?_ | refine kA ?_ _)); refine kP (cs := #[.int .u8 0, .int .i64 0, .int .i64 0, .int .i64 0, .int .i64 0, .int .u8 0]) ?_ 0 _ rfl; (with_reducible repeat (first | refine kN ?_ _ | refine kD ?_ | refine kA ?_ _)); exact BK232.out⟩
      have n3_ : Aside0 (Below w.heap.size w ((((((w46.setCell ⟨gb232, 0, none⟩ (.int .u8 t225)).setCell ⟨gb232, 1, none⟩ (.int .i64 t226)).setCell ⟨gb232, 2, none⟩ (.int .i64 t227)).setCell ⟨gb232, 3, none⟩ (.int .i64 t228)).setCell ⟨gb232, 4, none⟩ (.int .i64 t229)).setCell ⟨gb232, 5, none⟩ (.int .u8 t230))) := ⟨by repeat (first | (with_reducible first | exact HB.out | apply kL | apply kM | apply kE | refine kS ?_ GE216.out | refine kS ?_ GE224.out | refine kS ?_ GE232.out) | exact HB.out)⟩
      (try clear BK216)
      (try clear BK224)
      (try clear BK232)
      (try clear HB)
      generalize ((((((w46.setCell ⟨gb232, 0, none⟩ (.int .u8 t225)).setCell ⟨gb232, 1, none⟩ (.int .i64 t226)).setCell ⟨gb232, 2, none⟩ (.int .i64 t227)).setCell ⟨gb232, 3, none⟩ (.int .i64 t228)).setCell ⟨gb232, 4, none⟩ (.int .i64 t229)).setCell ⟨gb232, 5, none⟩ (.int .u8 t230)) = w50 at n0_ n1_ n2_ n3_ ⊢
      have BK216 := n0_
      have BK224 := n1_
      have BK232 := n2_
      have HB := n3_
      clear n0_ n1_ n2_ n3_
      have n0_ := Aside0.mk (kD BK216.out)
      have n1_ := Aside0.mk (kD BK224.out)
      have n2_ := Aside0.mk (kD BK232.out)
      have n3_ := Aside0.mk (kE HB.out)
      clear BK216
      clear BK224
      clear BK232
      clear HB
      have BK216 := n0_
      have BK224 := n1_
      have BK232 := n2_
      have HB := n3_
      clear n0_ n1_ n2_ n3_
      refine start_ (n := 29) (S := fun w' => w'.cell? ⟨gb224, 0, none⟩ = some (.int .u8 t217) ∧ w'.cell? ⟨gb224, 1, none⟩ = some (.int .i64 t218) ∧ w'.cell? ⟨gb224, 2, none⟩ = some (.int .i64 t219) ∧ w'.cell? ⟨gb224, 3, none⟩ = some (.int .i64 t220) ∧ w'.cell? ⟨gb224, 4, none⟩ = some (.int .i64 t221) ∧ w'.cell? ⟨gb224, 5, none⟩ = some (.int .u8 t222) ∧ w'.cell? ⟨gb232, 0, none⟩ = some (.int .u8 t225) ∧ w'.cell? ⟨gb232, 1, none⟩ = some (.int .i64 t226) ∧ w'.cell? ⟨gb232, 2, none⟩ = some (.int .i64 t227) ∧ w'.cell? ⟨gb232, 3, none⟩ = some (.int .i64 t228) ∧ w'.cell? ⟨gb232, 4, none⟩ = some (.int .i64 t229) ∧ w'.cell? ⟨gb232, 5, none⟩ = some (.int .u8 t230) ∧ w'.cell? ⟨gb216, 0, none⟩ = some (.int .i64 t208) ∧ w'.cell? ⟨gb216, 1, none⟩ = some (.int .i64 t209) ∧ w'.cell? ⟨gb216, 2, none⟩ = some (.int .u8 t210) ∧ w'.cell? ⟨gb216, 3, none⟩ = some (.int .i64 t211) ∧ w'.cell? ⟨gb216, 4, none⟩ = some (.int .i64 t212) ∧ w'.cell? ⟨gb216, 5, none⟩ = some (.int .i64 t213) ∧ w'.cell? ⟨gb216, 6, none⟩ = some (.int .i64 t214) ∧ w'.cell? ⟨gb216, 7, none⟩ = some (.bool t215)) (ds := []) #[F,F,F,F,F,F,F,F,F,F,F,F,F,F,F,F,F,F,F,F,F,F,F,F,F,F,F,F,F] (by kernel_rfl) rfl rfl ⟨(kC BK224.out 0).trans rfl, (kC BK224.out 1).trans rfl, (kC BK224.out 2).trans rfl, (kC BK224.out 3).trans rfl, (kC BK224.out 4).trans rfl, (kC BK224.out 5).trans rfl, (kC BK232.out 0).trans rfl, (kC BK232.out 1).trans rfl, (kC BK232.out 2).trans rfl, (kC BK232.out 3).trans rfl, (kC BK232.out 4).trans rfl, (kC BK232.out 5).trans rfl, (kC BK216.out 0).trans rfl, (kC BK216.out 1).trans rfl, (kC BK216.out 2).trans rfl, (kC BK216.out 3).trans rfl, (kC BK216.out 4).trans rfl, (kC BK216.out 5).trans rfl, (kC BK216.out 6).trans rfl, (kC BK216.out 7).trans rfl⟩ (fun hHeld => ?_); refine with_tabW paybooklaw12_CycleAsks.tab4 paybooklaw12_CycleAsks.bits4 (fun HT_ HW_ => ?_)
      generalize w50.drew = w51 at BK216 BK224 BK232 HB hHeld ⊢
      refine one_ (i := 0) (N := some 38) #[T,F,F,F,F,F,F,F,F,F,F,F,F,F,F,F,F,F,F,F,F,F,F,F,F,F,F,F,F] rfl rfl (one_of HT_.out (by kernel_rfl)) (by decide) (fun K hK => ?_)
      refine goes_ Tryd.func15 (by kernel_rfl) rfl #[] (by rfl) rfl rfl (by (try simp only [List.map_toArray, List.map_cons, List.map_nil]); first | done | rfl | (simp only [List.length_drop, List.length_take]; rfl)) ?_
      with_reducible refine (paybooklaw12_awake.calls k  true _ ?side1 A10.out).mono ?_
      (case side1 => repeat (first | exact (Kd.C_below HRG0.out HB.out) | exact HRG0.out | (with_reducible refine Kd.C_alloc ?_ _) | (with_reducible refine Kd.C_drewN ?_ _) | (with_reducible refine Kd.C_drew ?_)))
      rintro e w52 ⟨rfl, hb⟩
      refine ⟨_, rfl, ?_⟩
      have n0_ := Aside0.mk (blk_below (g := gb216) (o := .cells #[.int .i64 t208, .int .i64 t209, .int .u8 t210, .int .i64 t211, .int .i64 t212, .int .i64 t213, .int .i64 t214, .bool t215] 25 (0, 0)) (by (with_reducible repeat (first | refine kN ?_ _ | refine kD ?_ | refine kA ?_ _)); exact BK216.out) hb)
      have n1_ := Aside0.mk (blk_below (g := gb224) (o := .cells #[.int .u8 t217, .int .i64 t218, .int .i64 t219, .int .i64 t220, .int .i64 t221, .int .u8 t222] 28 (0, 0)) (by (with_reducible repeat (first | refine kN ?_ _ | refine kD ?_ | refine kA ?_ _)); exact BK224.out) hb)
      have n2_ := Aside0.mk (blk_below (g := gb232) (o := .cells #[.int .u8 t225, .int .i64 t226, .int .i64 t227, .int .i64 t228, .int .i64 t229, .int .u8 t230] 28 (0, 0)) (by (with_reducible repeat (first | refine kN ?_ _ | refine kD ?_ | refine kA ?_ _)); exact BK232.out) hb)
      have n3_ := Aside0.mk (below_step (by repeat (first | (with_reducible first | exact HB.out | apply kL | apply kM | apply kE | refine kS ?_ GE216.out | refine kS ?_ GE224.out | refine kS ?_ GE232.out) | exact HB.out)) hb)
      clear BK216
      clear BK224
      clear BK232
      clear HB
      have BK216 := n0_
      have BK224 := n1_
      have BK232 := n2_
      have HB := n3_
      clear n0_ n1_ n2_ n3_
      (try clear hb)
      (try clear hb2)
      (try clear hk)
      (try clear hi)
      refine hK.out _ _ ⟨(kC BK224.out 0).trans rfl, (kC BK224.out 1).trans rfl, (kC BK224.out 2).trans rfl, (kC BK224.out 3).trans rfl, (kC BK224.out 4).trans rfl, (kC BK224.out 5).trans rfl, (kC BK232.out 0).trans rfl, (kC BK232.out 1).trans rfl, (kC BK232.out 2).trans rfl, (kC BK232.out 3).trans rfl, (kC BK232.out 4).trans rfl, (kC BK232.out 5).trans rfl, (kC BK216.out 0).trans rfl, (kC BK216.out 1).trans rfl, (kC BK216.out 2).trans rfl, (kC BK216.out 3).trans rfl, (kC BK216.out 4).trans rfl, (kC BK216.out 5).trans rfl, (kC BK216.out 6).trans rfl, (kC BK216.out 7).trans rfl⟩ (fun hHeld => ?_)
      clear hK K
      refine norm_ (a' := ?_) ?_ ?_
      rotate_left
      ·show Act.put _ (some 38) _ = _
       simp only [Act.put, List.setIfInBounds_toArray, List.set_cons_zero, List.set_cons_succ, i64_w, i32_w]
       rfl
      refine pure_ (i := 1) (N := some 39) (v := ?_) (a' := ?_) #[T,T,F,F,F,F,F,F,F,F,F,F,F,F,F,F,F,F,F,F,F,F,F,F,F,F,F,F,F] rfl rfl (any_of HT_.out (by kernel_rfl)) (fun _ _ _ h => h) (Or.inl ⟨by rfl, ?_⟩) ?_ ?_
      rotate_left
      ·intro w'
       go_simp
       with_reducible rfl
      rotate_left
      ·simp only [Act.put, List.setIfInBounds_toArray, List.set_cons_zero, List.set_cons_succ, i64_w, i32_w]
       rfl
      refine pure_ (i := 2) (N := some 40) (v := ?_) (a' := ?_) #[T,T,T,F,F,F,F,F,F,F,F,F,F,F,F,F,F,F,F,F,F,F,F,F,F,F,F,F,F] rfl rfl (any_of HT_.out (by kernel_rfl)) (fun _ _ _ h => h) (Or.inl ⟨by rfl, ?_⟩) ?_ ?_
      rotate_left
      ·intro w'
       go_simp
       with_reducible rfl
      rotate_left
      ·simp only [Act.put, List.setIfInBounds_toArray, List.set_cons_zero, List.set_cons_succ, i64_w, i32_w]
       rfl
      refine pure_ (i := 3) (N := some 41) (v := ?_) (a' := ?_) #[T,T,T,T,F,F,F,F,F,F,F,F,F,F,F,F,F,F,F,F,F,F,F,F,F,F,F,F,F] rfl rfl (any_of HT_.out (by kernel_rfl)) (fun _ _ _ h => h) (Or.inl ⟨by rfl, ?_⟩) ?_ ?_
      rotate_left
      ·intro w'
       go_simp
       with_reducible rfl
      rotate_left
      ·simp only [Act.put, List.setIfInBounds_toArray, List.set_cons_zero, List.set_cons_succ, i64_w, i32_w]
       rfl
      refine pure_ (i := 4) (N := some 42) (v := ?_) (a' := ?_) #[T,T,T,T,T,F,F,F,F,F,F,F,F,F,F,F,F,F,F,F,F,F,F,F,F,F,F,F,F] rfl rfl (any_of HT_.out (by kernel_rfl)) (fun _ _ _ h => h) (Or.inl ⟨by rfl, ?_⟩) ?_ ?_
      rotate_left
      ·intro w'
       go_simp
       with_reducible rfl
      rotate_left
      ·simp only [Act.put, List.setIfInBounds_toArray, List.set_cons_zero, List.set_cons_succ, i64_w, i32_w]
       rfl
      refine pure_ (i := 5) (N := some 43) (v := ?_) (a' := ?_) #[T,T,T,T,T,T,F,F,F,F,F,F,F,F,F,F,F,F,F,F,F,F,F,F,F,F,F,F,F] rfl rfl (any_of HT_.out (by kernel_rfl)) (fun _ _ _ h => h) (Or.inl ⟨by rfl, ?_⟩) ?_ ?_
      rotate_left
      ·intro w'
       go_simp
       with_reducible rfl
      rotate_left
      ·simp only [Act.put, List.setIfInBounds_toArray, List.set_cons_zero, List.set_cons_succ, i64_w, i32_w]
       rfl
      refine pure_ (i := 6) (N := some 44) (v := ?_) (a' := ?_) #[T,T,T,T,T,T,T,F,F,F,F,F,F,F,F,F,F,F,F,F,F,F,F,F,F,F,F,F,F] rfl rfl (any_of HT_.out (by kernel_rfl)) (fun _ _ _ h => h) (Or.inl ⟨by rfl, ?_⟩) ?_ ?_
      rotate_left
      ·intro w'
       go_simp
       with_reducible rfl
      rotate_left
      ·simp only [Act.put, List.setIfInBounds_toArray, List.set_cons_zero, List.set_cons_succ, i64_w, i32_w]
       rfl
      refine take_ (i := 7) (N := some 45) (v := ?_) (a' := ?_) #[T,T,T,T,T,T,T,T,F,F,F,F,F,F,F,F,F,F,F,F,F,F,F,F,F,F,F,F,F] rfl rfl (take_ofW HT_.out HW_.out (by kernel_rfl)) (fun _ _ _ h => h) (Or.inl ⟨by rfl, ?_⟩) hHeld ?_ ?_
      rotate_left
      ·rintro w' ⟨s0, s1, s2, s3, s4, s5, s6, s7, s8, s9, s10, s11, s12, s13, s14, s15, s16, s17, s18, s19⟩
       go_simp
       with_reducible rfl
      rotate_left
      ·simp only [Act.put, List.setIfInBounds_toArray, List.set_cons_zero, List.set_cons_succ, i64_w, i32_w]
       rfl
      refine take_ (i := 8) (N := some 46) (v := ?_) (a' := ?_) #[T,T,T,T,T,T,T,T,T,F,F,F,F,F,F,F,F,F,F,F,F,F,F,F,F,F,F,F,F] rfl rfl (take_ofW HT_.out HW_.out (by kernel_rfl)) (fun _ _ _ h => h) (Or.inl ⟨by rfl, ?_⟩) hHeld ?_ ?_
      rotate_left
      ·rintro w' ⟨s0, s1, s2, s3, s4, s5, s6, s7, s8, s9, s10, s11, s12, s13, s14, s15, s16, s17, s18, s19⟩
       go_simp
       with_reducible rfl
      rotate_left
      ·simp only [Act.put, List.setIfInBounds_toArray, List.set_cons_zero, List.set_cons_succ, i64_w, i32_w]
       rfl
      refine pure_ (i := 9) (N := some 47) (v := ?_) (a' := ?_) #[T,T,T,T,T,T,T,T,T,T,F,F,F,F,F,F,F,F,F,F,F,F,F,F,F,F,F,F,F] rfl rfl (any_of HT_.out (by kernel_rfl)) (fun _ _ _ h => h) (Or.inl ⟨by rfl, ?_⟩) ?_ ?_
      rotate_left
      ·intro w'
       go_simp
       with_reducible rfl
      rotate_left
      ·simp only [Act.put, List.setIfInBounds_toArray, List.set_cons_zero, List.set_cons_succ, i64_w, i32_w]
       rfl
      refine pure_ (i := 10) (N := some 48) (v := ?_) (a' := ?_) #[T,T,T,T,T,T,T,T,T,T,T,F,F,F,F,F,F,F,F,F,F,F,F,F,F,F,F,F,F] rfl rfl (any_of HT_.out (by kernel_rfl)) (fun _ _ _ h => h) (Or.inl ⟨by rfl, ?_⟩) ?_ ?_
      rotate_left
      ·intro w'
       go_simp
       with_reducible rfl
      rotate_left
      ·simp only [Act.put, List.setIfInBounds_toArray, List.set_cons_zero, List.set_cons_succ, i64_w, i32_w]
       rfl
      refine pure_ (i := 11) (N := some 49) (v := ?_) (a' := ?_) #[T,T,T,T,T,T,T,T,T,T,T,T,F,F,F,F,F,F,F,F,F,F,F,F,F,F,F,F,F] rfl rfl (any_of HT_.out (by kernel_rfl)) (fun _ _ _ h => h) (Or.inl ⟨by rfl, ?_⟩) ?_ ?_
      rotate_left
      ·intro w'
       go_simp
       with_reducible rfl
      rotate_left
      ·simp only [Act.put, List.setIfInBounds_toArray, List.set_cons_zero, List.set_cons_succ, i64_w, i32_w]
       rfl
      refine pure_ (i := 14) (N := some 52) (v := ?_) (a' := ?_) #[T,T,T,T,T,T,T,T,T,T,T,T,F,F,T,F,F,F,F,F,F,F,F,F,F,F,F,F,F] rfl rfl (any_of HT_.out (by kernel_rfl)) (fun _ _ _ h => h) (Or.inl ⟨by rfl, ?_⟩) ?_ ?_
      rotate_left
      ·intro w'
       go_simp
       with_reducible rfl
      rotate_left
      ·simp only [Act.put, List.setIfInBounds_toArray, List.set_cons_zero, List.set_cons_succ, i64_w, i32_w]
       rfl
      refine take_ (i := 12) (N := some 50) (v := ?_) (a' := ?_) #[T,T,T,T,T,T,T,T,T,T,T,T,T,F,T,F,F,F,F,F,F,F,F,F,F,F,F,F,F] rfl rfl (take_ofW HT_.out HW_.out (by kernel_rfl)) (fun _ _ _ h => h) (Or.inl ⟨by rfl, ?_⟩) hHeld ?_ ?_
      rotate_left
      ·rintro w' ⟨s0, s1, s2, s3, s4, s5, s6, s7, s8, s9, s10, s11, s12, s13, s14, s15, s16, s17, s18, s19⟩
       go_simp
       with_reducible rfl
      rotate_left
      ·simp only [Act.put, List.setIfInBounds_toArray, List.set_cons_zero, List.set_cons_succ, i64_w, i32_w]
       rfl
      refine take_ (i := 15) (N := some 53) (v := ?_) (a' := ?_) #[T,T,T,T,T,T,T,T,T,T,T,T,T,F,T,T,F,F,F,F,F,F,F,F,F,F,F,F,F] rfl rfl (take_ofW HT_.out HW_.out (by kernel_rfl)) (fun _ _ _ h => h) (Or.inl ⟨by rfl, ?_⟩) hHeld ?_ ?_
      rotate_left
      ·rintro w' ⟨s0, s1, s2, s3, s4, s5, s6, s7, s8, s9, s10, s11, s12, s13, s14, s15, s16, s17, s18, s19⟩
       go_simp
       with_reducible rfl
      rotate_left
      ·simp only [Act.put, List.setIfInBounds_toArray, List.set_cons_zero, List.set_cons_succ, i64_w, i32_w]
       rfl
      refine one_ (i := 13) (N := some 51) #[T,T,T,T,T,T,T,T,T,T,T,T,T,T,T,T,F,F,F,F,F,F,F,F,F,F,F,F,F] rfl rfl (one_of HT_.out (by kernel_rfl)) (by decide) (fun K hK => ?_)
      refine goes_ Tryd.func16 (by kernel_rfl) rfl #[.agg #[.int .i64 t208, .int .i64 t209, .int .u8 t210, .int .i64 t211, .int .i64 t212, .int .i64 t213, .int .i64 t214, .bool t215]] (by rfl) rfl rfl (by (try simp only [List.map_toArray, List.map_cons, List.map_nil]); first | done | rfl | (simp only [List.length_drop, List.length_take]; rfl)) ?_
      with_reducible refine (cycle_Ended.calls t208 t209 t210 t211 t212 t213 t214 t215 t234 _ A14.out).mono ?_
      rintro e w53 ⟨rfl, hb⟩
      refine ⟨_, rfl, ?_⟩
      have n0_ := Aside0.mk (blk_below (g := gb216) (o := .cells #[.int .i64 t208, .int .i64 t209, .int .u8 t210, .int .i64 t211, .int .i64 t212, .int .i64 t213, .int .i64 t214, .bool t215] 25 (0, 0)) (by (with_reducible repeat (first | refine kN ?_ _ | refine kD ?_ | refine kA ?_ _)); exact BK216.out) hb)
      have n1_ := Aside0.mk (blk_below (g := gb224) (o := .cells #[.int .u8 t217, .int .i64 t218, .int .i64 t219, .int .i64 t220, .int .i64 t221, .int .u8 t222] 28 (0, 0)) (by (with_reducible repeat (first | refine kN ?_ _ | refine kD ?_ | refine kA ?_ _)); exact BK224.out) hb)
      have n2_ := Aside0.mk (blk_below (g := gb232) (o := .cells #[.int .u8 t225, .int .i64 t226, .int .i64 t227, .int .i64 t228, .int .i64 t229, .int .u8 t230] 28 (0, 0)) (by (with_reducible repeat (first | refine kN ?_ _ | refine kD ?_ | refine kA ?_ _)); exact BK232.out) hb)
      have n3_ := Aside0.mk (below_step (by repeat (first | (with_reducible first | exact HB.out | apply kL | apply kM | apply kE | refine kS ?_ GE216.out | refine kS ?_ GE224.out | refine kS ?_ GE232.out) | exact HB.out)) hb)
      clear BK216
      clear BK224
      clear BK232
      clear HB
      have BK216 := n0_
      have BK224 := n1_
      have BK232 := n2_
      have HB := n3_
      clear n0_ n1_ n2_ n3_
      (try clear hb)
      (try clear hb2)
      (try clear hk)
      (try clear hi)
      refine hK.out _ _ ⟨(kC BK224.out 0).trans rfl, (kC BK224.out 1).trans rfl, (kC BK224.out 2).trans rfl, (kC BK224.out 3).trans rfl, (kC BK224.out 4).trans rfl, (kC BK224.out 5).trans rfl, (kC BK232.out 0).trans rfl, (kC BK232.out 1).trans rfl, (kC BK232.out 2).trans rfl, (kC BK232.out 3).trans rfl, (kC BK232.out 4).trans rfl, (kC BK232.out 5).trans rfl, (kC BK216.out 0).trans rfl, (kC BK216.out 1).trans rfl, (kC BK216.out 2).trans rfl, (kC BK216.out 3).trans rfl, (kC BK216.out 4).trans rfl, (kC BK216.out 5).trans rfl, (kC BK216.out 6).trans rfl, (kC BK216.out 7).trans rfl⟩ (fun hHeld => ?_)
      clear hK K
      refine norm_ (a' := ?_) ?_ ?_
      rotate_left
      ·show Act.put _ (some 51) _ = _
       simp only [Act.put, List.setIfInBounds_toArray, List.set_cons_zero, List.set_cons_succ, i64_w, i32_w]
       rfl
      refine one_ (i := 16) (N := some 54) #[T,T,T,T,T,T,T,T,T,T,T,T,T,T,T,T,T,F,F,F,F,F,F,F,F,F,F,F,F] rfl rfl (one_of HT_.out (by kernel_rfl)) (by decide) (fun K hK => ?_)
      refine goes_ Tryd.func17 (by kernel_rfl) rfl #[.int .u8 t210] (by rfl) rfl rfl (by (try simp only [List.map_toArray, List.map_cons, List.map_nil]); first | done | rfl | (simp only [List.length_drop, List.length_take]; rfl)) ?_
      with_reducible refine (paybookref12_Ended.calls t210 t235 _ A15.out).mono ?_
      rintro e w' ⟨rfl, ⟨nd, rfl⟩⟩
      refine ⟨_, rfl, ?_⟩
      refine hK.out _ _ ⟨(kC BK224.out 0).trans rfl, (kC BK224.out 1).trans rfl, (kC BK224.out 2).trans rfl, (kC BK224.out 3).trans rfl, (kC BK224.out 4).trans rfl, (kC BK224.out 5).trans rfl, (kC BK232.out 0).trans rfl, (kC BK232.out 1).trans rfl, (kC BK232.out 2).trans rfl, (kC BK232.out 3).trans rfl, (kC BK232.out 4).trans rfl, (kC BK232.out 5).trans rfl, (kC BK216.out 0).trans rfl, (kC BK216.out 1).trans rfl, (kC BK216.out 2).trans rfl, (kC BK216.out 3).trans rfl, (kC BK216.out 4).trans rfl, (kC BK216.out 5).trans rfl, (kC BK216.out 6).trans rfl, (kC BK216.out 7).trans rfl⟩ (fun hHeld => ?_)
      clear hK K
      refine norm_ (a' := ?_) ?_ ?_
      rotate_left
      ·show Act.put _ (some 54) _ = _
       simp only [Act.put, List.setIfInBounds_toArray, List.set_cons_zero, List.set_cons_succ, i64_w, i32_w]
       rfl
      refine pure_ (i := 17) (N := some 55) (v := ?_) (a' := ?_) #[T,T,T,T,T,T,T,T,T,T,T,T,T,T,T,T,T,T,F,F,F,F,F,F,F,F,F,F,F] rfl rfl (any_of HT_.out (by kernel_rfl)) (fun _ _ _ h => h) (Or.inl ⟨by rfl, ?_⟩) ?_ ?_
      rotate_left
      ·intro w'
       go_simp
       with_reducible rfl
      rotate_left
      ·simp only [Act.put, List.setIfInBounds_toArray, List.set_cons_zero, List.set_cons_succ, i64_w, i32_w]
       rfl
      refine pure_ (i := 18) (N := some 56) (v := ?_) (a' := ?_) #[T,T,T,T,T,T,T,T,T,T,T,T,T,T,T,T,T,T,T,F,F,F,F,F,F,F,F,F,F] rfl rfl (any_of HT_.out (by kernel_rfl)) (fun _ _ _ h => h) (Or.inl ⟨by rfl, ?_⟩) ?_ ?_
      rotate_left
      ·intro w'
       go_simp
       with_reducible rfl
      rotate_left
      ·simp only [Act.put, List.setIfInBounds_toArray, List.set_cons_zero, List.set_cons_succ, i64_w, i32_w]
       rfl
      refine pure_ (i := 19) (N := some 57) (v := ?_) (a' := ?_) #[T,T,T,T,T,T,T,T,T,T,T,T,T,T,T,T,T,T,T,T,F,F,F,F,F,F,F,F,F] rfl rfl (any_of HT_.out (by kernel_rfl)) (fun _ _ _ h => h) (Or.inl ⟨by rfl, ?_⟩) ?_ ?_
      rotate_left
      ·intro w'
       go_simp
       with_reducible rfl
      rotate_left
      ·simp only [Act.put, List.setIfInBounds_toArray, List.set_cons_zero, List.set_cons_succ, i64_w, i32_w]
       rfl
      refine pure_ (i := 20) (N := some 58) (v := ?_) (a' := ?_) #[T,T,T,T,T,T,T,T,T,T,T,T,T,T,T,T,T,T,T,T,T,F,F,F,F,F,F,F,F] rfl rfl (any_of HT_.out (by kernel_rfl)) (fun _ _ _ h => h) (Or.inl ⟨by rfl, ?_⟩) ?_ ?_
      rotate_left
      ·intro w'
       go_simp
       with_reducible rfl
      rotate_left
      ·simp only [Act.put, List.setIfInBounds_toArray, List.set_cons_zero, List.set_cons_succ, i64_w, i32_w]
       rfl
      refine pure_ (i := 21) (N := some 59) (v := ?_) (a' := ?_) #[T,T,T,T,T,T,T,T,T,T,T,T,T,T,T,T,T,T,T,T,T,T,F,F,F,F,F,F,F] rfl rfl (any_of HT_.out (by kernel_rfl)) (fun _ _ _ h => h) (Or.inl ⟨by rfl, ?_⟩) ?_ ?_
      rotate_left
      ·intro w'
       go_simp
       with_reducible rfl
      rotate_left
      ·simp only [Act.put, List.setIfInBounds_toArray, List.set_cons_zero, List.set_cons_succ, i64_w, i32_w]
       rfl
      refine pure_ (i := 22) (N := some 60) (v := ?_) (a' := ?_) #[T,T,T,T,T,T,T,T,T,T,T,T,T,T,T,T,T,T,T,T,T,T,T,F,F,F,F,F,F] rfl rfl (any_of HT_.out (by kernel_rfl)) (fun _ _ _ h => h) (Or.inl ⟨by rfl, ?_⟩) ?_ ?_
      rotate_left
      ·intro w'
       go_simp
       with_reducible rfl
      rotate_left
      ·simp only [Act.put, List.setIfInBounds_toArray, List.set_cons_zero, List.set_cons_succ, i64_w, i32_w]
       rfl
      refine pure_ (i := 23) (N := some 61) (v := undef) (a' := ?_) #[T,T,T,T,T,T,T,T,T,T,T,T,T,T,T,T,T,T,T,T,T,T,T,T,F,F,F,F,F] rfl rfl (any_of HT_.out (by kernel_rfl)) (fun _ _ _ h => h) (Or.inr ⟨by rfl, rfl⟩) ?_ ?_
      rotate_left
      ·simp only [Act.put, List.setIfInBounds_toArray, List.set_cons_zero, List.set_cons_succ, i64_w, i32_w]
       rfl
      refine pure_ (i := 24) (N := some 62) (v := undef) (a' := ?_) #[T,T,T,T,T,T,T,T,T,T,T,T,T,T,T,T,T,T,T,T,T,T,T,T,T,F,F,F,F] rfl rfl (any_of HT_.out (by kernel_rfl)) (fun _ _ _ h => h) (Or.inr ⟨by rfl, rfl⟩) ?_ ?_
      rotate_left
      ·simp only [Act.put, List.setIfInBounds_toArray, List.set_cons_zero, List.set_cons_succ, i64_w, i32_w]
       rfl
      refine pure_ (i := 25) (N := some 63) (v := undef) (a' := ?_) #[T,T,T,T,T,T,T,T,T,T,T,T,T,T,T,T,T,T,T,T,T,T,T,T,T,T,F,F,F] rfl rfl (any_of HT_.out (by kernel_rfl)) (fun _ _ _ h => h) (Or.inr ⟨by rfl, rfl⟩) ?_ ?_
      rotate_left
      ·simp only [Act.put, List.setIfInBounds_toArray, List.set_cons_zero, List.set_cons_succ, i64_w, i32_w]
       rfl
      refine pure_ (i := 26) (N := some 64) (v := ?_) (a' := ?_) #[T,T,T,T,T,T,T,T,T,T,T,T,T,T,T,T,T,T,T,T,T,T,T,T,T,T,T,F,F] rfl rfl (any_of HT_.out (by kernel_rfl)) (fun _ _ _ h => h) (Or.inl ⟨by rfl, ?_⟩) ?_ ?_
      rotate_left
      ·intro w'
       go_simp
       with_reducible rfl
      rotate_left
      ·simp only [Act.put, List.setIfInBounds_toArray, List.set_cons_zero, List.set_cons_succ, i64_w, i32_w]
       rfl
      refine pure_ (i := 27) (N := some 65) (v := ?_) (a' := ?_) #[T,T,T,T,T,T,T,T,T,T,T,T,T,T,T,T,T,T,T,T,T,T,T,T,T,T,T,T,F] rfl rfl (any_of HT_.out (by kernel_rfl)) (fun _ _ _ h => h) (Or.inl ⟨by rfl, ?_⟩) ?_ ?_
      rotate_left
      ·intro w'
       go_simp
       with_reducible rfl
      rotate_left
      ·simp only [Act.put, List.setIfInBounds_toArray, List.set_cons_zero, List.set_cons_succ, i64_w, i32_w]
       rfl
      refine pure_ (i := 28) (N := some 12) (v := ?_) (a' := ?_) #[T,T,T,T,T,T,T,T,T,T,T,T,T,T,T,T,T,T,T,T,T,T,T,T,T,T,T,T,T] rfl rfl (any_of HT_.out (by kernel_rfl)) (fun _ _ _ h => h) (Or.inl ⟨by rfl, ?_⟩) ?_ ?_
      rotate_left
      ·intro w'
       go_simp
       with_reducible rfl
      rotate_left
      ·simp only [Act.put, List.setIfInBounds_toArray, List.set_cons_zero, List.set_cons_succ, i64_w, i32_w]
       rfl
      refine done_ (done_of HT_.out (by kernel_rfl)) ?_
      try go_wp2
      go_ret
      exact ⟨by first | rfl | (simp [errW_none, errW_some] <;> rfl) | (simp [*, errW_none, errW_some] <;> rfl), by repeat (first | (with_reducible first | exact HB.out | apply kL | apply kM | apply kE | refine kS ?_ GE216.out | refine kS ?_ GE224.out | refine kS ?_ GE232.out) | exact HB.out)⟩
    ·rw [if_neg c16] at H
     have c16b0 : (t234 == t235) = false := by simpa using c16
     (try (have c16b1 : decide (t234 = t235) = false := by simpa using c16))
     (try (have c16b2 : (t234 == t235) = false := by simpa using c16))
     (try (have c16b3 : ¬ (t234 = t235) := by simpa using c16))
     clear c16
     exact absurd H (by simp)
   ·rw [if_neg c13] at H
    have c13b0 : (t217 == t225 && (t218 == t226 && (t219 == t227 && (t220 == t228 && (t221 == t229 && (t222 == t230)))))) = false := by simpa using c13
    (try (have c13b1 : decide (t217 = t225 && (t218 == t226 && (t219 == t227 && (t220 == t228 && (t221 == t229 && (t222 == t230)))))) = false := by simpa using c13))
    (try (have c13b2 : (t217 == t225 && (t218 == t226 && (t219 == t227 && (t220 == t228 && (t221 == t229 && (t222 == t230)))))) = false := by simpa using c13))
    (try (have c13b3 : ¬ (t217 = t225 && (t218 == t226 && (t219 == t227 && (t220 == t228 && (t221 == t229 && (t222 == t230)))))) := by simpa using c13))
    clear c13
    exact absurd H (by simp)
  ·rw [if_neg c12] at H
   have c12b0 : (t223 == t231) = false := by simpa using c12
   (try (have c12b1 : decide (t223 = t231) = false := by simpa using c12))
   (try (have c12b2 : (t223 == t231) = false := by simpa using c12))
   (try (have c12b3 : ¬ (t223 = t231) := by simpa using c12))
   clear c12
   exact absurd H (by simp)
 ·replace c11 := Bool.eq_false_iff.mpr c11
  subst c11
  have H1 : (some false) = some true := by rw [if_neg (show ¬ (false = true) by decide)] at H; try exact H
  clear H
  have H := H1
  clear H1
  exact absurd H (by simp)

/-- THE ONE PURE STATEMENT of paybooklaw12_CycleAsks: yours. -/
def paybooklaw12_CycleAsks.Pure : Prop := ∀ (a0 : Int) (a1 : Int) (a2 : Int) (a3 : Int) (a4 : Int) (a5 : Bool), (Lit.int .u8 a0).wf = true → (Lit.int .u16 a1).wf = true → (Lit.int .u32 a2).wf = true → (Lit.int .u8 a3).wf = true → (Lit.int .u8 a4).wf = true → ∃ k, paybooklaw12_CycleAsks.f k a0 a1 a2 a3 a4 a5 = some true
theorem paybooklaw12_CycleAsks.walk (P : paybooklaw12_CycleAsks.Pure) (a0 : Int) (a1 : Int) (a2 : Int) (a3 : Int) (a4 : Int) (a5 : Bool) (w : World) (w0 : (Lit.int .u8 a0).wf = true) (w1 : (Lit.int .u16 a1).wf = true) (w2 : (Lit.int .u32 a2).wf = true) (w3 : (Lit.int .u8 a3).wf = true) (w4 : (Lit.int .u8 a4).wf = true) (hrG0 : Kd.C (Kd.int .i64) w (some ⟨0, 0, none⟩) 3 gl0) :
  Calls Tryd.prog 3 #[.int .u8 a0, .int .u16 a1, .int .u32 a2, .int .u8 a3, .int .u8 a4, .bool a5] w fun e w' => e = .returned (.bool true) ∧ Below w.heap.size w w' := by
 obtain ⟨k, h⟩ := P a0 a1 a2 a3 a4 a5 w0 w1 w2 w3 w4
 refine (paybooklaw12_CycleAsks.calls k a0 a1 a2 a3 a4 a5 w hrG0 h).mono ?_
 rintro e w' ⟨rfl, hd⟩
 exact ⟨rfl, hd⟩

end Go.Proofs.YtlfaaogifplgeaaDoor.PA
