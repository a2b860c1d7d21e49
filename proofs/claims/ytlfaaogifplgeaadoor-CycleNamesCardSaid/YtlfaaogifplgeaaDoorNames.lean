/- CycleNames: a phase's name; each of the eleven, and of any other number none. -/
import Derived.Test.YtlfaaogifplgeaaDoorPureHear
import Derived.Test.YtlfaaogifplgeaaDoorWKept
import Derived.WalkKit
import Derived.Outline
import Derived.Laws.Rows
namespace Go.Proofs.YtlfaaogifplgeaaDoor.PA
open Go.RowKit Go.Proofs.YtlfaaogifplgeaaDoorW.PrintWords Go.Proofs.YtlfaaogifplgeaaDoorW.PrintLast Go.Proofs.YtlfaaogifplgeaaDoorW.PrintMore
set_option linter.unusedVariables false
set_option linter.unusedSimpArgs false

set_option maxHeartbeats 1000000 in
theorem name_0 (w : World) : Calls Tryd.prog 24 #[.int .u8 0] w fun e w' => e = .returned (.string ⟨#[]⟩) ∧ Below w.heap.size w w' := by
  go_enter Tryd.func24, Tryd.ntmps24
  go_wp2
  go_ret
  exact ⟨rfl, by repeat (first | exact Below.refl _ _ | apply below_alloc | apply pw_below_drewN | apply below_drew1)⟩
set_option maxHeartbeats 1000000 in
theorem name_1 (w : World) : Calls Tryd.prog 24 #[.int .u8 1] w fun e w' => e = .returned (.string ⟨#[99, 104, 97, 114, 103, 105, 110, 103]⟩) ∧ Below w.heap.size w w' := by
  go_enter Tryd.func24, Tryd.ntmps24
  go_wp2
  go_ret
  exact ⟨rfl, by repeat (first | exact Below.refl _ _ | apply below_alloc | apply pw_below_drewN | apply below_drew1)⟩
set_option maxHeartbeats 1000000 in
theorem name_2 (w : World) : Calls Tryd.prog 24 #[.int .u8 2] w fun e w' => e = .returned (.string ⟨#[119, 97, 105, 116, 105, 110, 103]⟩) ∧ Below w.heap.size w w' := by
  go_enter Tryd.func24, Tryd.ntmps24
  go_wp2
  go_ret
  exact ⟨rfl, by repeat (first | exact Below.refl _ _ | apply below_alloc | apply pw_below_drewN | apply below_drew1)⟩
set_option maxHeartbeats 1000000 in
theorem name_3 (w : World) : Calls Tryd.prog 24 #[.int .u8 3] w fun e w' => e = .returned (.string ⟨#[97, 108, 108, 111, 99, 97, 116, 105, 110, 103]⟩) ∧ Below w.heap.size w w' := by
  go_enter Tryd.func24, Tryd.ntmps24
  go_wp2
  go_ret
  exact ⟨rfl, by repeat (first | exact Below.refl _ _ | apply below_alloc | apply pw_below_drewN | apply below_drew1)⟩
set_option maxHeartbeats 1000000 in
theorem name_4 (w : World) : Calls Tryd.prog 24 #[.int .u8 4] w fun e w' => e = .returned (.string ⟨#[115, 104, 105, 112, 112, 105, 110, 103]⟩) ∧ Below w.heap.size w w' := by
  go_enter Tryd.func24, Tryd.ntmps24
  go_wp2
  go_ret
  exact ⟨rfl, by repeat (first | exact Below.refl _ _ | apply below_alloc | apply pw_below_drewN | apply below_drew1)⟩
set_option maxHeartbeats 1000000 in
theorem name_5 (w : World) : Calls Tryd.prog 24 #[.int .u8 5] w fun e w' => e = .returned (.string ⟨#[114, 101, 108, 101, 97, 115, 105, 110, 103]⟩) ∧ Below w.heap.size w w' := by
  go_enter Tryd.func24, Tryd.ntmps24
  go_wp2
  go_ret
  exact ⟨rfl, by repeat (first | exact Below.refl _ _ | apply below_alloc | apply pw_below_drewN | apply below_drew1)⟩
set_option maxHeartbeats 1000000 in
theorem name_6 (w : World) : Calls Tryd.prog 24 #[.int .u8 6] w fun e w' => e = .returned (.string ⟨#[114, 101, 102, 117, 110, 100, 105, 110, 103]⟩) ∧ Below w.heap.size w w' := by
  go_enter Tryd.func24, Tryd.ntmps24
  go_wp2
  go_ret
  exact ⟨rfl, by repeat (first | exact Below.refl _ _ | apply below_alloc | apply pw_below_drewN | apply below_drew1)⟩
set_option maxHeartbeats 1000000 in
theorem name_7 (w : World) : Calls Tryd.prog 24 #[.int .u8 7] w fun e w' => e = .returned (.string ⟨#[100, 111, 110, 101]⟩) ∧ Below w.heap.size w w' := by
  go_enter Tryd.func24, Tryd.ntmps24
  go_wp2
  go_ret
  exact ⟨rfl, by repeat (first | exact Below.refl _ _ | apply below_alloc | apply pw_below_drewN | apply below_drew1)⟩
set_option maxHeartbeats 1000000 in
theorem name_8 (w : World) : Calls Tryd.prog 24 #[.int .u8 8] w fun e w' => e = .returned (.string ⟨#[117, 110, 112, 97, 105, 100]⟩) ∧ Below w.heap.size w w' := by
  go_enter Tryd.func24, Tryd.ntmps24
  go_wp2
  go_ret
  exact ⟨rfl, by repeat (first | exact Below.refl _ _ | apply below_alloc | apply pw_below_drewN | apply below_drew1)⟩
set_option maxHeartbeats 1000000 in
theorem name_9 (w : World) : Calls Tryd.prog 24 #[.int .u8 9] w fun e w' => e = .returned (.string ⟨#[114, 101, 102, 117, 110, 100, 101, 100]⟩) ∧ Below w.heap.size w w' := by
  go_enter Tryd.func24, Tryd.ntmps24
  go_wp2
  go_ret
  exact ⟨rfl, by repeat (first | exact Below.refl _ _ | apply below_alloc | apply pw_below_drewN | apply below_drew1)⟩
set_option maxHeartbeats 1000000 in
theorem name_10 (w : World) : Calls Tryd.prog 24 #[.int .u8 10] w fun e w' => e = .returned (.string ⟨#[115, 107, 105, 112, 112, 101, 100]⟩) ∧ Below w.heap.size w w' := by
  go_enter Tryd.func24, Tryd.ntmps24
  go_wp2
  go_ret
  exact ⟨rfl, by repeat (first | exact Below.refl _ _ | apply below_alloc | apply pw_below_drewN | apply below_drew1)⟩
set_option maxHeartbeats 1000000 in
theorem name_far (a : Int) (h : 11 ≤ a) (h2 : a ≤ 255) (w : World) : Calls Tryd.prog 24 #[.int .u8 a] w fun e w' => e = .returned (.string ⟨#[]⟩) ∧ Below w.heap.size w w' := by
  go_enter Tryd.func24, Tryd.ntmps24
  go_wp2
  go_ret
  exact ⟨rfl, by repeat (first | exact Below.refl _ _ | apply below_alloc | apply pw_below_drewN | apply below_drew1)⟩
set_option maxHeartbeats 1000000 in
theorem names_0 (w : World) (hrG0 : Kd.C (Kd.int .i64) w (some ⟨0, 0, none⟩) 3 gl0) : Calls Tryd.prog 8 #[.int .u8 0] w fun e w' => e = .returned (.bool true) ∧ Below w.heap.size w w' := by
  have G := Aside0.mk hrG0
  clear hrG0
  go_enter Tryd.func8, Tryd.ntmps8
  go_wp2_with fail
  go_at_call 15
  refine (paybooklaw12_awake.calls 6 true _ (Kd.C_alloc G.out _) (Pure.awake_f 0)).mono ?_
  rintro e w1 ⟨rfl, hb⟩
  have HB := Aside0.mk ((below_alloc (Below.refl _ _) _).trans (hb.mono (by simp)))
  clear hb
  go_wp2_with fail
  go_at_call 24
  refine (name_0 _).mono ?_
  rintro e w2 ⟨rfl, hb⟩
  have HB2 := Aside0.mk (HB.out.trans (hb.mono HB.out.size))
  clear hb HB
  go_wp2
  go_ret
  exact ⟨rfl, HB2.out⟩
set_option maxHeartbeats 1000000 in
theorem names_1 (w : World) (hrG0 : Kd.C (Kd.int .i64) w (some ⟨0, 0, none⟩) 3 gl0) : Calls Tryd.prog 8 #[.int .u8 1] w fun e w' => e = .returned (.bool true) ∧ Below w.heap.size w w' := by
  have G := Aside0.mk hrG0
  clear hrG0
  go_enter Tryd.func8, Tryd.ntmps8
  go_wp2_with fail
  go_at_call 15
  refine (paybooklaw12_awake.calls 6 true _ (Kd.C_alloc G.out _) (Pure.awake_f 0)).mono ?_
  rintro e w1 ⟨rfl, hb⟩
  have HB := Aside0.mk ((below_alloc (Below.refl _ _) _).trans (hb.mono (by simp)))
  clear hb
  go_wp2_with fail
  go_at_call 24
  refine (name_1 _).mono ?_
  rintro e w2 ⟨rfl, hb⟩
  have HB2 := Aside0.mk (HB.out.trans (hb.mono HB.out.size))
  clear hb HB
  go_wp2
  go_ret
  exact ⟨rfl, HB2.out⟩
set_option maxHeartbeats 1000000 in
theorem names_2 (w : World) (hrG0 : Kd.C (Kd.int .i64) w (some ⟨0, 0, none⟩) 3 gl0) : Calls Tryd.prog 8 #[.int .u8 2] w fun e w' => e = .returned (.bool true) ∧ Below w.heap.size w w' := by
  have G := Aside0.mk hrG0
  clear hrG0
  go_enter Tryd.func8, Tryd.ntmps8
  go_wp2_with fail
  go_at_call 15
  refine (paybooklaw12_awake.calls 6 true _ (Kd.C_alloc G.out _) (Pure.awake_f 0)).mono ?_
  rintro e w1 ⟨rfl, hb⟩
  have HB := Aside0.mk ((below_alloc (Below.refl _ _) _).trans (hb.mono (by simp)))
  clear hb
  go_wp2_with fail
  go_at_call 24
  refine (name_2 _).mono ?_
  rintro e w2 ⟨rfl, hb⟩
  have HB2 := Aside0.mk (HB.out.trans (hb.mono HB.out.size))
  clear hb HB
  go_wp2
  go_ret
  exact ⟨rfl, HB2.out⟩
set_option maxHeartbeats 1000000 in
theorem names_3 (w : World) (hrG0 : Kd.C (Kd.int .i64) w (some ⟨0, 0, none⟩) 3 gl0) : Calls Tryd.prog 8 #[.int .u8 3] w fun e w' => e = .returned (.bool true) ∧ Below w.heap.size w w' := by
  have G := Aside0.mk hrG0
  clear hrG0
  go_enter Tryd.func8, Tryd.ntmps8
  go_wp2_with fail
  go_at_call 15
  refine (paybooklaw12_awake.calls 6 true _ (Kd.C_alloc G.out _) (Pure.awake_f 0)).mono ?_
  rintro e w1 ⟨rfl, hb⟩
  have HB := Aside0.mk ((below_alloc (Below.refl _ _) _).trans (hb.mono (by simp)))
  clear hb
  go_wp2_with fail
  go_at_call 24
  refine (name_3 _).mono ?_
  rintro e w2 ⟨rfl, hb⟩
  have HB2 := Aside0.mk (HB.out.trans (hb.mono HB.out.size))
  clear hb HB
  go_wp2
  go_ret
  exact ⟨rfl, HB2.out⟩
set_option maxHeartbeats 1000000 in
theorem names_4 (w : World) (hrG0 : Kd.C (Kd.int .i64) w (some ⟨0, 0, none⟩) 3 gl0) : Calls Tryd.prog 8 #[.int .u8 4] w fun e w' => e = .returned (.bool true) ∧ Below w.heap.size w w' := by
  have G := Aside0.mk hrG0
  clear hrG0
  go_enter Tryd.func8, Tryd.ntmps8
  go_wp2_with fail
  go_at_call 15
  refine (paybooklaw12_awake.calls 6 true _ (Kd.C_alloc G.out _) (Pure.awake_f 0)).mono ?_
  rintro e w1 ⟨rfl, hb⟩
  have HB := Aside0.mk ((below_alloc (Below.refl _ _) _).trans (hb.mono (by simp)))
  clear hb
  go_wp2_with fail
  go_at_call 24
  refine (name_4 _).mono ?_
  rintro e w2 ⟨rfl, hb⟩
  have HB2 := Aside0.mk (HB.out.trans (hb.mono HB.out.size))
  clear hb HB
  go_wp2
  go_ret
  exact ⟨rfl, HB2.out⟩
set_option maxHeartbeats 1000000 in
theorem names_5 (w : World) (hrG0 : Kd.C (Kd.int .i64) w (some ⟨0, 0, none⟩) 3 gl0) : Calls Tryd.prog 8 #[.int .u8 5] w fun e w' => e = .returned (.bool true) ∧ Below w.heap.size w w' := by
  have G := Aside0.mk hrG0
  clear hrG0
  go_enter Tryd.func8, Tryd.ntmps8
  go_wp2_with fail
  go_at_call 15
  refine (paybooklaw12_awake.calls 6 true _ (Kd.C_alloc G.out _) (Pure.awake_f 0)).mono ?_
  rintro e w1 ⟨rfl, hb⟩
  have HB := Aside0.mk ((below_alloc (Below.refl _ _) _).trans (hb.mono (by simp)))
  clear hb
  go_wp2_with fail
  go_at_call 24
  refine (name_5 _).mono ?_
  rintro e w2 ⟨rfl, hb⟩
  have HB2 := Aside0.mk (HB.out.trans (hb.mono HB.out.size))
  clear hb HB
  go_wp2
  go_ret
  exact ⟨rfl, HB2.out⟩
set_option maxHeartbeats 1000000 in
theorem names_6 (w : World) (hrG0 : Kd.C (Kd.int .i64) w (some ⟨0, 0, none⟩) 3 gl0) : Calls Tryd.prog 8 #[.int .u8 6] w fun e w' => e = .returned (.bool true) ∧ Below w.heap.size w w' := by
  have G := Aside0.mk hrG0
  clear hrG0
  go_enter Tryd.func8, Tryd.ntmps8
  go_wp2_with fail
  go_at_call 15
  refine (paybooklaw12_awake.calls 6 true _ (Kd.C_alloc G.out _) (Pure.awake_f 0)).mono ?_
  rintro e w1 ⟨rfl, hb⟩
  have HB := Aside0.mk ((below_alloc (Below.refl _ _) _).trans (hb.mono (by simp)))
  clear hb
  go_wp2_with fail
  go_at_call 24
  refine (name_6 _).mono ?_
  rintro e w2 ⟨rfl, hb⟩
  have HB2 := Aside0.mk (HB.out.trans (hb.mono HB.out.size))
  clear hb HB
  go_wp2
  go_ret
  exact ⟨rfl, HB2.out⟩
set_option maxHeartbeats 1000000 in
theorem names_7 (w : World) (hrG0 : Kd.C (Kd.int .i64) w (some ⟨0, 0, none⟩) 3 gl0) : Calls Tryd.prog 8 #[.int .u8 7] w fun e w' => e = .returned (.bool true) ∧ Below w.heap.size w w' := by
  have G := Aside0.mk hrG0
  clear hrG0
  go_enter Tryd.func8, Tryd.ntmps8
  go_wp2_with fail
  go_at_call 15
  refine (paybooklaw12_awake.calls 6 true _ (Kd.C_alloc G.out _) (Pure.awake_f 0)).mono ?_
  rintro e w1 ⟨rfl, hb⟩
  have HB := Aside0.mk ((below_alloc (Below.refl _ _) _).trans (hb.mono (by simp)))
  clear hb
  go_wp2_with fail
  go_at_call 24
  refine (name_7 _).mono ?_
  rintro e w2 ⟨rfl, hb⟩
  have HB2 := Aside0.mk (HB.out.trans (hb.mono HB.out.size))
  clear hb HB
  go_wp2
  go_ret
  exact ⟨rfl, HB2.out⟩
set_option maxHeartbeats 1000000 in
theorem names_8 (w : World) (hrG0 : Kd.C (Kd.int .i64) w (some ⟨0, 0, none⟩) 3 gl0) : Calls Tryd.prog 8 #[.int .u8 8] w fun e w' => e = .returned (.bool true) ∧ Below w.heap.size w w' := by
  have G := Aside0.mk hrG0
  clear hrG0
  go_enter Tryd.func8, Tryd.ntmps8
  go_wp2_with fail
  go_at_call 15
  refine (paybooklaw12_awake.calls 6 true _ (Kd.C_alloc G.out _) (Pure.awake_f 0)).mono ?_
  rintro e w1 ⟨rfl, hb⟩
  have HB := Aside0.mk ((below_alloc (Below.refl _ _) _).trans (hb.mono (by simp)))
  clear hb
  go_wp2_with fail
  go_at_call 24
  refine (name_8 _).mono ?_
  rintro e w2 ⟨rfl, hb⟩
  have HB2 := Aside0.mk (HB.out.trans (hb.mono HB.out.size))
  clear hb HB
  go_wp2
  go_ret
  exact ⟨rfl, HB2.out⟩
set_option maxHeartbeats 1000000 in
theorem names_9 (w : World) (hrG0 : Kd.C (Kd.int .i64) w (some ⟨0, 0, none⟩) 3 gl0) : Calls Tryd.prog 8 #[.int .u8 9] w fun e w' => e = .returned (.bool true) ∧ Below w.heap.size w w' := by
  have G := Aside0.mk hrG0
  clear hrG0
  go_enter Tryd.func8, Tryd.ntmps8
  go_wp2_with fail
  go_at_call 15
  refine (paybooklaw12_awake.calls 6 true _ (Kd.C_alloc G.out _) (Pure.awake_f 0)).mono ?_
  rintro e w1 ⟨rfl, hb⟩
  have HB := Aside0.mk ((below_alloc (Below.refl _ _) _).trans (hb.mono (by simp)))
  clear hb
  go_wp2_with fail
  go_at_call 24
  refine (name_9 _).mono ?_
  rintro e w2 ⟨rfl, hb⟩
  have HB2 := Aside0.mk (HB.out.trans (hb.mono HB.out.size))
  clear hb HB
  go_wp2
  go_ret
  exact ⟨rfl, HB2.out⟩
set_option maxHeartbeats 1000000 in
theorem names_10 (w : World) (hrG0 : Kd.C (Kd.int .i64) w (some ⟨0, 0, none⟩) 3 gl0) : Calls Tryd.prog 8 #[.int .u8 10] w fun e w' => e = .returned (.bool true) ∧ Below w.heap.size w w' := by
  have G := Aside0.mk hrG0
  clear hrG0
  go_enter Tryd.func8, Tryd.ntmps8
  go_wp2_with fail
  go_at_call 15
  refine (paybooklaw12_awake.calls 6 true _ (Kd.C_alloc G.out _) (Pure.awake_f 0)).mono ?_
  rintro e w1 ⟨rfl, hb⟩
  have HB := Aside0.mk ((below_alloc (Below.refl _ _) _).trans (hb.mono (by simp)))
  clear hb
  go_wp2_with fail
  go_at_call 24
  refine (name_10 _).mono ?_
  rintro e w2 ⟨rfl, hb⟩
  have HB2 := Aside0.mk (HB.out.trans (hb.mono HB.out.size))
  clear hb HB
  go_wp2
  go_ret
  exact ⟨rfl, HB2.out⟩
set_option maxHeartbeats 1000000 in
theorem names_far (a : Int) (h : 11 ≤ a) (h2 : a ≤ 255) (w : World) (hrG0 : Kd.C (Kd.int .i64) w (some ⟨0, 0, none⟩) 3 gl0) : Calls Tryd.prog 8 #[.int .u8 a] w fun e w' => e = .returned (.bool true) ∧ Below w.heap.size w w' := by
  have G := Aside0.mk hrG0
  clear hrG0
  go_enter Tryd.func8, Tryd.ntmps8
  go_wp2_with fail
  go_at_call 15
  refine (paybooklaw12_awake.calls 6 true _ G.out (Pure.awake_f 0)).mono ?_
  rintro e w1 ⟨rfl, hb⟩
  have HB := Aside0.mk hb
  clear hb
  go_wp2_with fail
  go_at_call 24
  refine (name_far a h h2 _).mono ?_
  rintro e w2 ⟨rfl, hb⟩
  have HB2 := Aside0.mk (HB.out.trans (hb.mono HB.out.size))
  clear hb HB
  go_wp2
  go_ret
  exact ⟨rfl, HB2.out⟩
theorem names_any (a : Int) (w : World) (hw : (Lit.int .u8 a).wf = true) (hrG0 : Kd.C (Kd.int .i64) w (some ⟨0, 0, none⟩) 3 gl0) : Calls Tryd.prog 8 #[.int .u8 a] w fun e w' => e = .returned (.bool true) ∧ Below w.heap.size w w' := by
  have h0 := bounds_u8 hw
  by_cases h : 11 ≤ a
  · exact names_far a h (by omega) w hrG0
  · have h' : a = 0 ∨ a = 1 ∨ a = 2 ∨ a = 3 ∨ a = 4 ∨ a = 5 ∨ a = 6 ∨ a = 7 ∨ a = 8 ∨ a = 9 ∨ a = 10 := by omega
    rcases h' with rfl | rfl | rfl | rfl | rfl | rfl | rfl | rfl | rfl | rfl | rfl
    · exact names_0 w hrG0
    · exact names_1 w hrG0
    · exact names_2 w hrG0
    · exact names_3 w hrG0
    · exact names_4 w hrG0
    · exact names_5 w hrG0
    · exact names_6 w hrG0
    · exact names_7 w hrG0
    · exact names_8 w hrG0
    · exact names_9 w hrG0
    · exact names_10 w hrG0
end Go.Proofs.YtlfaaogifplgeaaDoor.PA
