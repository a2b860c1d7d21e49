-- printed by this workplace: wip/patchprint.py over the kit's print
import Derived.Test.YtlfaaogifplgeaaDoorPAx0
import Derived.Test.YtlfaaogifplgeaaDoorPAx4
import Derived.Test.YtlfaaogifplgeaaDoorPAx7
import Derived.Test.YtlfaaogifplgeaaDoorPAx9
import Derived.Test.YtlfaaogifplgeaaDoorPAx10
namespace Go.Proofs.YtlfaaogifplgeaaDoor.PA
open Go.RowKit Go.Proofs.YtlfaaogifplgeaaDoorW.PrintWords Go.Proofs.YtlfaaogifplgeaaDoorW.PrintLast Go.Proofs.YtlfaaogifplgeaaDoorW.PrintMore
attribute [local go_sem] max2_int min2_int max_two min_two max_three min_three max_four min_four   -- for this text's walks alone
set_option linter.unusedVariables false
set_option linter.unusedSimpArgs false

/-! ### paybooklaw12_awake: function 15 -/
def paybooklaw12_awake.l0 : Nat → Int → Int → Int → Int → Int → Int → Int → Int → Bool → Option (Bool)
 | 0, _, _, _, _, _, _, _, _, _ => none
 | k + 1, x2, x189000, x189001, x189002, x189003, x189004, x189005, x189006, x189007 => if x2 < 3 then ((cycle_Asks.f 1 x189000 x189001 x189002 x189003 x189004 x189005 x189006 x189007).bind fun bt191 => (if bt191.2.2.2.2.2.2 = true then ((cycle_Hear.f k 1 x189000 x189001 x189002 x189003 x189004 x189005 x189006 x189007 bt191.1 bt191.2.1 bt191.2.2.1 bt191.2.2.2.1 bt191.2.2.2.2.1 1 5 false).bind fun bt199 => (paybooklaw12_awake.l0 k (wrap64 (x2 + 1)) bt199.1 bt199.2.1 bt199.2.2.1 bt199.2.2.2.1 bt199.2.2.2.2.1 bt199.2.2.2.2.2.1 bt199.2.2.2.2.2.2.1 bt199.2.2.2.2.2.2.2.1)) else (some false))) else (if x189002 = 7 then ((cycle_Ended.f x189000 x189001 x189002 x189003 x189004 x189005 x189006 x189007).bind fun t189 => (if t189 = true then ((cycle_Tries.f).bind fun t190 => (some (t190 == 4))) else (some false))) else (some false))
def paybooklaw12_awake.f (k : Nat)  : Option (Bool) := (cycle_Begin.f 0 5 100 0 true).bind fun bt180 => (paybooklaw12_awake.l0 k 0 bt180.1 bt180.2.1 bt180.2.2.1 bt180.2.2.2.1 bt180.2.2.2.2.1 bt180.2.2.2.2.2.1 bt180.2.2.2.2.2.2.1 bt180.2.2.2.2.2.2.2)
theorem paybooklaw12_awake.mono_l : ∀ k, (∀ y0 y1 y2 y3 y4 y5 y6 y7 y8, LeO (paybooklaw12_awake.l0 k y0 y1 y2 y3 y4 y5 y6 y7 y8) (paybooklaw12_awake.l0 (k + 1) y0 y1 y2 y3 y4 y5 y6 y7 y8))
 | 0 => fun _ _ _ _ _ _ _ _ _ r h => by simp [paybooklaw12_awake.l0] at h
 | k + 1 => by
  have ih0 := paybooklaw12_awake.mono_l k
  ·intro y0 y1 y2 y3 y4 y5 y6 y7 y8
   unfold paybooklaw12_awake.l0
   repeat' first
   | (with_reducible exact ih0 _ _ _ _ _ _ _ _ _)
   | (with_reducible exact cycle_Hear.mono _ _ _ _ _ _ _ _ _ _ _ _ _ _ _ _ _ _)
   | (with_reducible exact LeO.refl _)
   | (with_reducible exact LeO.none _)
   | (with_reducible refine LeO.ite ?_ ?_)
   | (with_reducible refine LeO.bind ?_ (fun _ => ?_))
   | exact ih0 _ _ _ _ _ _ _ _ _
   | exact cycle_Hear.mono _ _ _ _ _ _ _ _ _ _ _ _ _ _ _ _ _ _
   | exact LeO.none _
   | refine LeO.ite ?_ ?_
   | refine LeO.bind ?_ (fun _ => ?_)
theorem paybooklaw12_awake.mono : ∀ k, LeO (paybooklaw12_awake.f k ) (paybooklaw12_awake.f (k + 1) ) := by
 intro  k
 have ih0 := paybooklaw12_awake.mono_l k
 unfold paybooklaw12_awake.f
 repeat' first
   | (with_reducible exact ih0 _ _ _ _ _ _ _ _ _)
   | (with_reducible exact cycle_Hear.mono _ _ _ _ _ _ _ _ _ _ _ _ _ _ _ _ _ _)
   | (with_reducible exact LeO.refl _)
   | (with_reducible exact LeO.none _)
   | (with_reducible refine LeO.ite ?_ ?_)
   | (with_reducible refine LeO.bind ?_ (fun _ => ?_))
   | exact ih0 _ _ _ _ _ _ _ _ _
   | exact cycle_Hear.mono _ _ _ _ _ _ _ _ _ _ _ _ _ _ _ _ _ _
   | exact LeO.none _
   | refine LeO.ite ?_ ?_
   | refine LeO.bind ?_ (fun _ => ?_)
set_option maxHeartbeats 40000000 in
set_option maxRecDepth 100000 in
theorem paybooklaw12_awake.calls (k : Nat)  (r : Bool) (w : World) (hrG0 : Kd.C (Kd.int .i64) w (some ⟨0, 0, none⟩) 3 gl0) (h : paybooklaw12_awake.f k  = some r) :
  Calls Tryd.prog 15 #[] w fun e w' => e = .returned (.bool r) ∧ Below w.heap.size w w' := by
 have hu25 := Tryd.underlying25
 have hu28 := Tryd.underlying28
 have HRG0 := Aside0.mk hrG0
 clear hrG0
 have HB := Aside0.mk (Below.refl w.heap.size w)
 have H : ((cycle_Begin.f 0 5 100 0 true).bind fun bt180 => (paybooklaw12_awake.l0 k 0 bt180.1 bt180.2.1 bt180.2.2.1 bt180.2.2.2.1 bt180.2.2.2.2.1 bt180.2.2.2.2.2.1 bt180.2.2.2.2.2.2.1 bt180.2.2.2.2.2.2.2)) = some r := h
 clear h
 replace H := Option.bind_eq_some_iff.mp H
 obtain ⟨⟨t180, t181, t182, t183, t184, t185, t186, t187⟩, A10, H⟩ := H
 replace H : (paybooklaw12_awake.l0 k 0 t180 t181 t182 t183 t184 t185 t186 t187) = some r := H
 have A1 := Aside0.mk A10
 clear A10
 have H' := Aside0.mk H
 clear H
 go_enter Tryd.func15, Tryd.ntmps15
 go_wp2_with (first | ((with_reducible refine gate_callee (f := 20) rfl ?_); refine goesL_ (some 5) rfl rfl Tryd.func20 (by kernel_rfl) rfl #[.int .i64 0, .int .i64 5, .int .i64 100, .int .i64 0, .bool true] rfl (by (try simp only [List.map_toArray, List.map_cons, List.map_nil]); first | done | rfl | (simp only [List.length_drop, List.length_take]; rfl)) ?_; (with_reducible refine (cycle_Begin.calls 0 5 100 0 true t180 t181 t182 t183 t184 t185 t186 t187 _ A1.out).mono ?_); rintro e w2 ⟨rfl, hb⟩; refine ⟨_, rfl, ?_⟩; have n0_ := Aside0.mk (below_step (by repeat (first | (with_reducible first | exact HB.out | apply kL | apply kM | apply kE) | exact HB.out)) hb); clear HB; have HB := n0_; clear n0_; (try clear hb); (try clear hb2); (try clear hk); (try clear hi)) | ((with_reducible refine gate_dst (N := 1) rfl ?_); refine box_event ?hg (N := 1) ?hd (cs := #[.int .i64 0, .int .i64 0, .int .u8 0, .int .i64 0, .int .i64 0, .int .i64 0, .int .i64 0, .bool false]) (t := 25) ?hr ?_; (case hd => rfl); (case hg => rfl); (case hr => first | (go_simp; done) | (go_simp; rfl)); intro gb188 hg w3 hbox hb; have n0_ := Aside0.mk (below_step (by repeat (first | (with_reducible first | exact HB.out | apply kL | apply kM | apply kE) | exact HB.out)) hb); have n1_ := Aside0.mk (hbox); have n2_ := Aside0.mk ((by rw [hg]; exact (below_size (by repeat (first | (with_reducible first | exact HB.out | apply kL | apply kM | apply kE) | exact HB.out))) : w.heap.size ≤ gb188)); have n3_ := Aside0.mk ((by rw [hg]; exact (below_size (by repeat (first | (with_reducible first | exact HB.out | apply kL | apply kM | apply kE) | exact HB.out))) : w.heap.size ≤ gb188)); clear HB; have HB := n0_; have BK188 := n1_; have GW188 := n2_; have GE188 := n3_; clear n0_ n1_ n2_ n3_; clear hb hbox hg; obtain ⟨hcz4_0, hcz4_1, hcz4_2, hcz4_3, hcz4_4, hcz4_5, hcz4_6, hcz4_7, hfz4_0, hfz4_1, hfz4_2, hfz4_3, hfz4_4, hfz4_5, hfz4_6, hfz4_7⟩ := bxc8 BK188.out))
 go_loopg [2] k (fun kq v2 w' => ∃ (x2_1 : Int) (x189000_1 : Int) (x189001_1 : Int) (x189002_1 : Int) (x189003_1 : Int) (x189004_1 : Int) (x189005_1 : Int) (x189006_1 : Int) (x189007_1 : Bool), v2 = .int .i64 x2_1 ∧ Aside0 (paybooklaw12_awake.l0 kq x2_1 x189000_1 x189001_1 x189002_1 x189003_1 x189004_1 x189005_1 x189006_1 x189007_1 = some r) ∧ Aside0 (kq ≤ k) ∧ Aside0 (w'.heap[gb188]? = some (.cells #[.int .i64 x189000_1, .int .i64 x189001_1, .int .u8 x189002_1, .int .i64 x189003_1, .int .i64 x189004_1, .int .i64 x189005_1, .int .i64 x189006_1, .bool x189007_1] 25 (0, 0))) ∧ Aside0 (Below w.heap.size w w'))
 case atStart => exact ⟨(0), (t180), (t181), (t182), (t183), (t184), (t185), (t186), (t187), (by first | rfl | (simp; done) | (simp [*]; done)), H', ⟨Nat.le_refl _⟩, ⟨by (with_reducible repeat (first | refine kN ?_ _ | refine kD ?_ | refine kA ?_ _)); refine bxw8 (.int .i64 0) (.int .i64 0) (.int .u8 0) (.int .i64 0) (.int .i64 0) (.int .i64 0) (.int .i64 0) (.bool false) ?_; (with_reducible repeat (first | refine kN ?_ _ | refine kD ?_ | refine kA ?_ _)); exact BK188.out⟩, ⟨by repeat (first | (with_reducible first | exact HB.out | apply kL | apply kM | apply kE | refine kS ?_ GE188.out) | exact HB.out)⟩⟩
 case round =>
  clear H'
  try clear c1
  try clear c2
  try clear p2
  try clear hcz4_0
  try clear hcz4_1
  try clear hcz4_2
  try clear hcz4_3
  try clear hcz4_4
  try clear hcz4_5
  try clear hcz4_6
  try clear hcz4_7
  try clear hfz4_0
  try clear hfz4_1
  try clear hfz4_2
  try clear hfz4_3
  try clear hfz4_4
  try clear hfz4_5
  try clear hfz4_6
  try clear hfz4_7
  obtain ⟨x2_1, x189000_1, x189001_1, x189002_1, x189003_1, x189004_1, x189005_1, x189006_1, x189007_1, rfl, HA, HK1, BK188, HB⟩ := hrel
  cases gk with
  | zero => exact absurd HA.out (by simp [paybooklaw12_awake.l0])
  | succ k1 =>
   have H := HA.out
   clear HA
   simp only [paybooklaw12_awake.l0] at H
   by_cases c5 : x2_1 < 3
   ·rw [if_pos c5] at H
    have c5b0 : decide (x2_1 < 3) = true := decide_eq_true c5
    clear c5
    replace H := Option.bind_eq_some_iff.mp H
    obtain ⟨⟨t191, t192, t193, t194, t195, t196, t197⟩, A60, H⟩ := H
    replace H : (if t197 = true then ((cycle_Hear.f k1 1 x189000_1 x189001_1 x189002_1 x189003_1 x189004_1 x189005_1 x189006_1 x189007_1 t191 t192 t193 t194 t195 1 5 false).bind fun bt199 => (paybooklaw12_awake.l0 k1 (wrap64 (x2_1 + 1)) bt199.1 bt199.2.1 bt199.2.2.1 bt199.2.2.2.1 bt199.2.2.2.2.1 bt199.2.2.2.2.2.1 bt199.2.2.2.2.2.2.1 bt199.2.2.2.2.2.2.2.1)) else (some false)) = some r := H
    have A6 := Aside0.mk A60
    clear A60
    by_cases c7 : t197 = true
    ·subst c7
     have H1 : ((cycle_Hear.f k1 1 x189000_1 x189001_1 x189002_1 x189003_1 x189004_1 x189005_1 x189006_1 x189007_1 t191 t192 t193 t194 t195 1 5 false).bind fun bt199 => (paybooklaw12_awake.l0 k1 (wrap64 (x2_1 + 1)) bt199.1 bt199.2.1 bt199.2.2.1 bt199.2.2.2.1 bt199.2.2.2.2.1 bt199.2.2.2.2.2.1 bt199.2.2.2.2.2.2.1 bt199.2.2.2.2.2.2.2.1)) = some r := by rw [if_pos rfl] at H; try exact H
     clear H
     have H := H1
     clear H1
     replace H := Option.bind_eq_some_iff.mp H
     obtain ⟨⟨t199, t200, t201, t202, t203, t204, t205, t206, t207⟩, A80, H⟩ := H
     replace H : (paybooklaw12_awake.l0 k1 (wrap64 (x2_1 + 1)) t199 t200 t201 t202 t203 t204 t205 t206) = some r := H
     have A8 := Aside0.mk A80
     clear A80
     have H' := Aside0.mk H
     clear H
     obtain ⟨hcz9_0, hcz9_1, hcz9_2, hcz9_3, hcz9_4, hcz9_5, hcz9_6, hcz9_7, hfz9_0, hfz9_1, hfz9_2, hfz9_3, hfz9_4, hfz9_5, hfz9_6, hfz9_7⟩ := bxc8 BK188.out
     go_wp2_with (first | ((with_reducible refine gate_callee (f := 13) rfl ?_); refine goesL_ (some 12) rfl rfl Tryd.func13 (by kernel_rfl) rfl #[.int .i64 1, .agg #[.int .i64 x189000_1, .int .i64 x189001_1, .int .u8 x189002_1, .int .i64 x189003_1, .int .i64 x189004_1, .int .i64 x189005_1, .int .i64 x189006_1, .bool x189007_1]] rfl (by (try simp only [List.map_toArray, List.map_cons, List.map_nil]); first | done | rfl | (simp only [List.length_drop, List.length_take]; rfl)) ?_; (with_reducible refine (cycle_Asks.calls 1 x189000_1 x189001_1 x189002_1 x189003_1 x189004_1 x189005_1 x189006_1 x189007_1 t191 t192 t193 t194 t195 t196 true _ A6.out).mono ?_); rintro e w10 ⟨rfl, hb⟩; refine ⟨_, rfl, ?_⟩; have n0_ := Aside0.mk (blk_below (g := gb188) (o := .cells #[.int .i64 x189000_1, .int .i64 x189001_1, .int .u8 x189002_1, .int .i64 x189003_1, .int .i64 x189004_1, .int .i64 x189005_1, .int .i64 x189006_1, .bool x189007_1] 25 (0, 0)) (by (with_reducible repeat (first | refine kN ?_ _ | refine kD ?_ | refine kA ?_ _)); exact BK188.out) hb); have n1_ := Aside0.mk (below_step (by repeat (first | (with_reducible first | exact HB.out | apply kL | apply kM | apply kE | refine kS ?_ GE188.out) | exact HB.out)) hb); clear BK188; clear HB; have BK188 := n0_; have HB := n1_; clear n0_ n1_; (try clear hb); (try clear hb2); (try clear hk); (try clear hi)) | ((with_reducible refine gate_dst (N := 3) rfl ?_); refine box_event ?hg (N := 3) ?hd (cs := #[.int .u8 0, .int .i64 0, .int .i64 0, .int .i64 0, .int .i64 0, .int .u8 0]) (t := 28) ?hr ?_; (case hd => rfl); (case hg => rfl); (case hr => first | (go_simp; done) | (go_simp; rfl)); intro gb198 hg w11 hbox hb; have n0_ := Aside0.mk (blk_below (g := gb188) (o := .cells #[.int .i64 x189000_1, .int .i64 x189001_1, .int .u8 x189002_1, .int .i64 x189003_1, .int .i64 x189004_1, .int .i64 x189005_1, .int .i64 x189006_1, .bool x189007_1] 25 (0, 0)) (by (with_reducible repeat (first | refine kN ?_ _ | refine kD ?_ | refine kA ?_ _)); exact BK188.out) hb); have n1_ := Aside0.mk (below_step (by repeat (first | (with_reducible first | exact HB.out | apply kL | apply kM | apply kE | refine kS ?_ GE188.out) | exact HB.out)) hb); have n2_ := Aside0.mk (hbox); have n3_ := Aside0.mk ((by rw [hg]; exact (below_size (by repeat (first | (with_reducible first | exact HB.out | apply kL | apply kM | apply kE | refine kS ?_ GE188.out) | exact HB.out))) : w.heap.size ≤ gb198)); have n4_ := Aside0.mk ((by rw [hg]; exact (below_size (by repeat (first | (with_reducible first | exact HB.out | apply kL | apply kM | apply kE | refine kS ?_ GE188.out) | exact HB.out))) : w.heap.size ≤ gb198)); have n5_ := Aside0.mk ((by rw [hg]; exact Nat.ne_of_lt (blk_lt (g := gb188) (o := .cells #[.int .i64 x189000_1, .int .i64 x189001_1, .int .u8 x189002_1, .int .i64 x189003_1, .int .i64 x189004_1, .int .i64 x189005_1, .int .i64 x189006_1, .bool x189007_1] 25 (0, 0)) (by (with_reducible repeat (first | refine kN ?_ _ | refine kD ?_ | refine kA ?_ _)); exact BK188.out)) : gb188 ≠ gb198)); have n6_ := Aside0.mk ((by rw [hg]; exact Nat.ne_of_gt (blk_lt (g := gb188) (o := .cells #[.int .i64 x189000_1, .int .i64 x189001_1, .int .u8 x189002_1, .int .i64 x189003_1, .int .i64 x189004_1, .int .i64 x189005_1, .int .i64 x189006_1, .bool x189007_1] 25 (0, 0)) (by (with_reducible repeat (first | refine kN ?_ _ | refine kD ?_ | refine kA ?_ _)); exact BK188.out)) : gb198 ≠ gb188)); clear BK188; clear HB; have BK188 := n0_; have HB := n1_; have BK198 := n2_; have GW198 := n3_; have GE198 := n4_; have NB188_198 := n5_; have NB198_188 := n6_; clear n0_ n1_ n2_ n3_ n4_ n5_ n6_; clear hb hbox hg; have hnb12 := NB198_188.out; have hnc12 := NB188_198.out; obtain ⟨hcz13_0, hcz13_1, hcz13_2, hcz13_3, hcz13_4, hcz13_5, hfz13_0, hfz13_1, hfz13_2, hfz13_3, hfz13_4, hfz13_5⟩ := bxc6 BK198.out; obtain ⟨hcz14_0, hcz14_1, hcz14_2, hcz14_3, hcz14_4, hcz14_5, hcz14_6, hcz14_7, hfz14_0, hfz14_1, hfz14_2, hfz14_3, hfz14_4, hfz14_5, hfz14_6, hfz14_7⟩ := bxc8 BK188.out) | ((with_reducible refine gate_dst (N := 19) rfl ?_); refine wpList_load_row rfl 25 (.tmp 1) rfl gb188 rfl 25 #[.int .i64 x189000_1, .int .i64 x189001_1, .int .u8 x189002_1, .int .i64 x189003_1, .int .i64 x189004_1, .int .i64 x189005_1, .int .i64 x189006_1, .bool x189007_1] (0, 0) _ (by (with_reducible repeat (first | refine kN ?_ _ | refine kD ?_ | refine kA ?_ _ | refine kR ?_ NB188_198.out _)); (with_reducible repeat (first | refine kN ?_ _ | refine kD ?_ | refine kA ?_ _)); exact BK188.out) Tryd.underlying25 rfl (by kernel_rfl) ?_) | ((with_reducible refine gate_dst (N := 20) rfl ?_); refine wpList_load_row rfl 28 (.tmp 3) rfl gb198 rfl 28 #[.int .u8 t191, .int .i64 t192, .int .i64 t193, .int .i64 t194, .int .i64 t195, .int .u8 1] (0, 0) _ (by (with_reducible repeat (first | refine kN ?_ _ | refine kD ?_ | refine kA ?_ _)); refine bxp6_5 (o := .int .u8 t196) ?_; (with_reducible repeat (first | refine kN ?_ _ | refine kD ?_ | refine kA ?_ _)); refine bxw6 (.int .u8 0) (.int .i64 0) (.int .i64 0) (.int .i64 0) (.int .i64 0) (.int .u8 0) ?_; (with_reducible repeat (first | refine kN ?_ _ | refine kD ?_ | refine kA ?_ _)); exact BK198.out) Tryd.underlying28 rfl (by kernel_rfl) ?_) | ((with_reducible refine gate_callee (f := 18) rfl ?_); refine goesL_ (some 21) rfl rfl Tryd.func18 (by kernel_rfl) rfl #[.int .i64 1, .agg #[.int .i64 x189000_1, .int .i64 x189001_1, .int .u8 x189002_1, .int .i64 x189003_1, .int .i64 x189004_1, .int .i64 x189005_1, .int .i64 x189006_1, .bool x189007_1], .agg #[.int .u8 t191, .int .i64 t192, .int .i64 t193, .int .i64 t194, .int .i64 t195, .int .u8 1], .int .i64 5, .bool false] rfl (by (try simp only [List.map_toArray, List.map_cons, List.map_nil]); first | done | rfl | (simp only [List.length_drop, List.length_take]; rfl)) ?_; (with_reducible refine (cycle_Hear.calls k1 1 x189000_1 x189001_1 x189002_1 x189003_1 x189004_1 x189005_1 x189006_1 x189007_1 t191 t192 t193 t194 t195 1 5 false t199 t200 t201 t202 t203 t204 t205 t206 t207 _ ?side1 A8.out).mono ?_); (case side1 => exact Kd.C_below HRG0.out (by repeat (first | (with_reducible first | exact HB.out | apply kL | apply kM | apply kE | refine kS ?_ GE188.out | refine kS ?_ GE198.out) | exact HB.out))); rintro e w15 ⟨rfl, hb⟩; refine ⟨_, rfl, ?_⟩; have n0_ := Aside0.mk (blk_below (g := gb188) (o := .cells #[.int .i64 x189000_1, .int .i64 x189001_1, .int .u8 x189002_1, .int .i64 x189003_1, .int .i64 x189004_1, .int .i64 x189005_1, .int .i64 x189006_1, .bool x189007_1] 25 (0, 0)) (by (with_reducible repeat (first | refine kN ?_ _ | refine kD ?_ | refine kA ?_ _ | refine kR ?_ NB188_198.out _)); (with_reducible repeat (first | refine kN ?_ _ | refine kD ?_ | refine kA ?_ _)); exact BK188.out) hb); have n1_ := Aside0.mk (blk_below (g := gb198) (o := .cells #[.int .u8 t191, .int .i64 t192, .int .i64 t193, .int .i64 t194, .int .i64 t195, .int .u8 1] 28 (0, 0)) (by (with_reducible repeat (first | refine kN ?_ _ | refine kD ?_ | refine kA ?_ _)); refine bxp6_5 (o := .int .u8 t196) ?_; (with_reducible repeat (first | refine kN ?_ _ | refine kD ?_ | refine kA ?_ _)); refine bxw6 (.int .u8 0) (.int .i64 0) (.int .i64 0) (.int .i64 0) (.int .i64 0) (.int .u8 0) ?_; (with_reducible repeat (first | refine kN ?_ _ | refine kD ?_ | refine kA ?_ _)); exact BK198.out) hb); have n2_ := Aside0.mk (below_step (by repeat (first | (with_reducible first | exact HB.out | apply kL | apply kM | apply kE | refine kS ?_ GE188.out | refine kS ?_ GE198.out) | exact HB.out)) hb); clear BK188; clear BK198; clear HB; have BK188 := n0_; have BK198 := n1_; have HB := n2_; clear n0_ n1_ n2_; (try clear hb); (try clear hb2); (try clear hk); (try clear hi); obtain ⟨hcz16_0, hcz16_1, hcz16_2, hcz16_3, hcz16_4, hcz16_5, hcz16_6, hcz16_7, hfz16_0, hfz16_1, hfz16_2, hfz16_3, hfz16_4, hfz16_5, hfz16_6, hfz16_7⟩ := bxc8 BK188.out))
     go_roundg k1
     case measure => have := HK1.out; omega
     case rel => exact ⟨(wrap64 (x2_1 + 1)), (t199), (t200), (t201), (t202), (t203), (t204), (t205), (t206), (by first | rfl | (simp; done) | (simp [*]; done)), H', ⟨by have := HK1.out; omega⟩, ⟨by (with_reducible repeat (first | refine kN ?_ _ | refine kD ?_ | refine kA ?_ _)); refine bxw8 (.int .i64 x189000_1) (.int .i64 x189001_1) (.int .u8 x189002_1) (.int .i64 x189003_1) (.int .i64 x189004_1) (.int .i64 x189005_1) (.int .i64 x189006_1) (.bool x189007_1) ?_; (with_reducible repeat (first | refine kN ?_ _ | refine kD ?_ | refine kA ?_ _)); exact BK188.out⟩, ⟨by repeat (first | (with_reducible first | exact HB.out | apply kL | apply kM | apply kE | refine kS ?_ GE188.out | refine kS ?_ GE198.out) | exact HB.out)⟩⟩
    ·replace c7 := Bool.eq_false_iff.mpr c7
     subst c7
     have H1 : (some false) = some r := by rw [if_neg (show ¬ (false = true) by decide)] at H; try exact H
     clear H
     have H := H1
     clear H1
     obtain rfl := Option.some.inj H
     obtain ⟨hcz17_0, hcz17_1, hcz17_2, hcz17_3, hcz17_4, hcz17_5, hcz17_6, hcz17_7, hfz17_0, hfz17_1, hfz17_2, hfz17_3, hfz17_4, hfz17_5, hfz17_6, hfz17_7⟩ := bxc8 BK188.out
     go_wp2_with (first | ((with_reducible refine gate_callee (f := 13) rfl ?_); refine goesL_ (some 12) rfl rfl Tryd.func13 (by kernel_rfl) rfl #[.int .i64 1, .agg #[.int .i64 x189000_1, .int .i64 x189001_1, .int .u8 x189002_1, .int .i64 x189003_1, .int .i64 x189004_1, .int .i64 x189005_1, .int .i64 x189006_1, .bool x189007_1]] rfl (by (try simp only [List.map_toArray, List.map_cons, List.map_nil]); first | done | rfl | (simp only [List.length_drop, List.length_take]; rfl)) ?_; (with_reducible refine (cycle_Asks.calls 1 x189000_1 x189001_1 x189002_1 x189003_1 x189004_1 x189005_1 x189006_1 x189007_1 t191 t192 t193 t194 t195 t196 false _ A6.out).mono ?_); rintro e w18 ⟨rfl, hb⟩; refine ⟨_, rfl, ?_⟩; have n0_ := Aside0.mk (blk_below (g := gb188) (o := .cells #[.int .i64 x189000_1, .int .i64 x189001_1, .int .u8 x189002_1, .int .i64 x189003_1, .int .i64 x189004_1, .int .i64 x189005_1, .int .i64 x189006_1, .bool x189007_1] 25 (0, 0)) (by (with_reducible repeat (first | refine kN ?_ _ | refine kD ?_ | refine kA ?_ _)); exact BK188.out) hb); have n1_ := Aside0.mk (below_step (by repeat (first | (with_reducible first | exact HB.out | apply kL | apply kM | apply kE | refine kS ?_ GE188.out) | exact HB.out)) hb); clear BK188; clear HB; have BK188 := n0_; have HB := n1_; clear n0_ n1_; (try clear hb); (try clear hb2); (try clear hk); (try clear hi)) | ((with_reducible refine gate_dst (N := 3) rfl ?_); refine box_event ?hg (N := 3) ?hd (cs := #[.int .u8 0, .int .i64 0, .int .i64 0, .int .i64 0, .int .i64 0, .int .u8 0]) (t := 28) ?hr ?_; (case hd => rfl); (case hg => rfl); (case hr => first | (go_simp; done) | (go_simp; rfl)); intro gb198 hg w19 hbox hb; have n0_ := Aside0.mk (blk_below (g := gb188) (o := .cells #[.int .i64 x189000_1, .int .i64 x189001_1, .int .u8 x189002_1, .int .i64 x189003_1, .int .i64 x189004_1, .int .i64 x189005_1, .int .i64 x189006_1, .bool x189007_1] 25 (0, 0)) (by (with_reducible repeat (first | refine kN ?_ _ | refine kD ?_ | refine kA ?_ _)); exact BK188.out) hb); have n1_ := Aside0.mk (below_step (by repeat (first | (with_reducible first | exact HB.out | apply kL | apply kM | apply kE | refine kS ?_ GE188.out) | exact HB.out)) hb); have n2_ := Aside0.mk (hbox); have n3_ := Aside0.mk ((by rw [hg]; exact (below_size (by repeat (first | (with_reducible first | exact HB.out | apply kL | apply kM | apply kE | refine kS ?_ GE188.out) | exact HB.out))) : w.heap.size ≤ gb198)); have n4_ := Aside0.mk ((by rw [hg]; exact (below_size (by repeat (first | (with_reducible first | exact HB.out | apply kL | apply kM | apply kE | refine kS ?_ GE188.out) | exact HB.out))) : w.heap.size ≤ gb198)); have n5_ := Aside0.mk ((by rw [hg]; exact Nat.ne_of_lt (blk_lt (g := gb188) (o := .cells #[.int .i64 x189000_1, .int .i64 x189001_1, .int .u8 x189002_1, .int .i64 x189003_1, .int .i64 x189004_1, .int .i64 x189005_1, .int .i64 x189006_1, .bool x189007_1] 25 (0, 0)) (by (with_reducible repeat (first | refine kN ?_ _ | refine kD ?_ | refine kA ?_ _)); exact BK188.out)) : gb188 ≠ gb198)); have n6_ := Aside0.mk ((by rw [hg]; exact Nat.ne_of_gt (blk_lt (g := gb188) (o := .cells #[.int .i64 x189000_1, .int .i64 x189001_1, .int .u8 x189002_1, .int .i64 x189003_1, .int .i64 x189004_1, .int .i64 x189005_1, .int .i64 x189006_1, .bool x189007_1] 25 (0, 0)) (by (with_reducible repeat (first | refine kN ?_ _ | refine kD ?_ | refine kA ?_ _)); exact BK188.out)) : gb198 ≠ gb188)); clear BK188; clear HB; have BK188 := n0_; have HB := n1_; have BK198 := n2_; have GW198 := n3_; have GE198 := n4_; have NB188_198 := n5_; have NB198_188 := n6_; clear n0_ n1_ n2_ n3_ n4_ n5_ n6_; clear hb hbox hg; have hnb20 := NB198_188.out; have hnc20 := NB188_198.out; obtain ⟨hcz21_0, hcz21_1, hcz21_2, hcz21_3, hcz21_4, hcz21_5, hfz21_0, hfz21_1, hfz21_2, hfz21_3, hfz21_4, hfz21_5⟩ := bxc6 BK198.out))
     go_ret
     exact ⟨by first | rfl | (simp [errW_none, errW_some] <;> rfl) | (simp [*, errW_none, errW_some] <;> rfl), by repeat (first | (with_reducible first | exact HB.out | apply kL | apply kM | apply kE | refine kS ?_ GE188.out | refine kS ?_ GE198.out) | exact HB.out)⟩
   ·rw [if_neg c5] at H
    have c5b0 : decide (x2_1 < 3) = false := decide_eq_false c5
    clear c5
    by_cases c22 : x189002_1 = 7
    ·rw [if_pos c22] at H
     have c22b0 : (x189002_1 == 7) = true := beq_iff_eq.mpr c22
     have c22b1 : (x189002_1 != 7) = false := bne_eq_false_iff_eq.mpr c22
     clear c22
     replace H := Option.bind_eq_some_iff.mp H
     obtain ⟨t189, A230, H⟩ := H
     replace H : (if t189 = true then ((cycle_Tries.f).bind fun t190 => (some (t190 == 4))) else (some false)) = some r := H
     have A23 := Aside0.mk A230
     clear A230
     by_cases c24 : t189 = true
     ·subst c24
      have H1 : ((cycle_Tries.f).bind fun t190 => (some (t190 == 4))) = some r := by rw [if_pos rfl] at H; try exact H
      clear H
      have H := H1
      clear H1
      replace H := Option.bind_eq_some_iff.mp H
      obtain ⟨t190, A250, H⟩ := H
      replace H : (some (t190 == 4)) = some r := H
      have A25 := Aside0.mk A250
      clear A250
      obtain rfl := Option.some.inj H
      obtain ⟨hcz26_0, hcz26_1, hcz26_2, hcz26_3, hcz26_4, hcz26_5, hcz26_6, hcz26_7, hfz26_0, hfz26_1, hfz26_2, hfz26_3, hfz26_4, hfz26_5, hfz26_6, hfz26_7⟩ := bxc8 BK188.out
      go_wp2_with (first | (go_at_call 16; (with_reducible refine (cycle_Ended.calls x189000_1 x189001_1 x189002_1 x189003_1 x189004_1 x189005_1 x189006_1 x189007_1 true _ A23.out).mono ?_); rintro e w27 ⟨rfl, hb⟩; have n0_ := Aside0.mk (blk_below (g := gb188) (o := .cells #[.int .i64 x189000_1, .int .i64 x189001_1, .int .u8 x189002_1, .int .i64 x189003_1, .int .i64 x189004_1, .int .i64 x189005_1, .int .i64 x189006_1, .bool x189007_1] 25 (0, 0)) (by (with_reducible repeat (first | refine kN ?_ _ | refine kD ?_ | refine kA ?_ _)); exact BK188.out) hb); have n1_ := Aside0.mk (below_step (by repeat (first | (with_reducible first | exact HB.out | apply kL | apply kM | apply kE | refine kS ?_ GE188.out) | exact HB.out)) hb); clear BK188; clear HB; have BK188 := n0_; have HB := n1_; clear n0_ n1_; (try clear hb); (try clear hb2); (try clear hk); (try clear hi)) | (go_at_call 29; (with_reducible refine (cycle_Tries.calls  t190 _ A25.out).mono ?_); rintro e w' ⟨rfl, ⟨nd, rfl⟩⟩))
      go_ret
      exact ⟨by first | rfl | (simp [errW_none, errW_some] <;> rfl) | (simp [*, errW_none, errW_some] <;> rfl), by repeat (first | (with_reducible first | exact HB.out | apply kL | apply kM | apply kE | refine kS ?_ GE188.out) | exact HB.out)⟩
     ·replace c24 := Bool.eq_false_iff.mpr c24
      subst c24
      have H1 : (some false) = some r := by rw [if_neg (show ¬ (false = true) by decide)] at H; try exact H
      clear H
      have H := H1
      clear H1
      obtain rfl := Option.some.inj H
      obtain ⟨hcz28_0, hcz28_1, hcz28_2, hcz28_3, hcz28_4, hcz28_5, hcz28_6, hcz28_7, hfz28_0, hfz28_1, hfz28_2, hfz28_3, hfz28_4, hfz28_5, hfz28_6, hfz28_7⟩ := bxc8 BK188.out
      go_wp2_with (first | (go_at_call 16; (with_reducible refine (cycle_Ended.calls x189000_1 x189001_1 x189002_1 x189003_1 x189004_1 x189005_1 x189006_1 x189007_1 false _ A23.out).mono ?_); rintro e w29 ⟨rfl, hb⟩; have n0_ := Aside0.mk (blk_below (g := gb188) (o := .cells #[.int .i64 x189000_1, .int .i64 x189001_1, .int .u8 x189002_1, .int .i64 x189003_1, .int .i64 x189004_1, .int .i64 x189005_1, .int .i64 x189006_1, .bool x189007_1] 25 (0, 0)) (by (with_reducible repeat (first | refine kN ?_ _ | refine kD ?_ | refine kA ?_ _)); exact BK188.out) hb); have n1_ := Aside0.mk (below_step (by repeat (first | (with_reducible first | exact HB.out | apply kL | apply kM | apply kE | refine kS ?_ GE188.out) | exact HB.out)) hb); clear BK188; clear HB; have BK188 := n0_; have HB := n1_; clear n0_ n1_; (try clear hb); (try clear hb2); (try clear hk); (try clear hi)))
      go_ret
      exact ⟨by first | rfl | (simp [errW_none, errW_some] <;> rfl) | (simp [*, errW_none, errW_some] <;> rfl), by repeat (first | (with_reducible first | exact HB.out | apply kL | apply kM | apply kE | refine kS ?_ GE188.out) | exact HB.out)⟩
    ·rw [if_neg c22] at H
     have c22b0 : (x189002_1 == 7) = false := beq_eq_false_iff_ne.mpr c22
     have c22b1 : (x189002_1 != 7) = true := bne_iff_ne.mpr c22
     obtain rfl := Option.some.inj H
     obtain ⟨hcz30_0, hcz30_1, hcz30_2, hcz30_3, hcz30_4, hcz30_5, hcz30_6, hcz30_7, hfz30_0, hfz30_1, hfz30_2, hfz30_3, hfz30_4, hfz30_5, hfz30_6, hfz30_7⟩ := bxc8 BK188.out
     go_wp2
     go_ret
     exact ⟨by first | rfl | (simp [errW_none, errW_some] <;> rfl) | (simp [*, errW_none, errW_some] <;> rfl), by repeat (first | (with_reducible first | exact HB.out | apply kL | apply kM | apply kE | refine kS ?_ GE188.out) | exact HB.out)⟩

end Go.Proofs.YtlfaaogifplgeaaDoor.PA
