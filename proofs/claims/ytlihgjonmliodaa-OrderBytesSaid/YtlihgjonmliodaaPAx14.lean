-- printed by this workplace: wip/patchprint.py over the kit's print
import Derived.Test.YtlihgjonmliodaaPAx0
import Derived.Test.YtlihgjonmliodaaPAx11
import Derived.Test.YtlihgjonmliodaaPAx13
namespace Go.Proofs.Ytlihgjonmliodaa.PA
open Go.RowKit Go.Proofs.YtlihgjonmliodaaW.PrintWords Go.Proofs.YtlihgjonmliodaaW.PrintLast Go.Proofs.YtlihgjonmliodaaW.PrintMore
attribute [local go_sem] max2_int min2_int max_two min_two max_three min_three max_four min_four   -- for this text's walks alone
set_option linter.unusedVariables false
set_option linter.unusedSimpArgs false

/-! ### plan_Put: function 31 -/
def plan_Put.f (k : Nat) (l0_0 : List Int) (a0_1 : Int) (a1_0 : Int) (a1_1 : Int) (a1_2 : Int) (a1_3 : Int) (a1_4 : Bool) (a1_5 : Bool) : Option (List Int × Int) := (pack_Box_Put.f k l0_0 a0_1 (([a1_0, wrap64 (a1_1), a1_2, a1_3] : List Int))).bind fun bt160 => ((pack_Box_Flag.f k bt160.1 bt160.2 a1_4).bind fun bt164 => ((pack_Box_Flag.f k bt164.1 bt164.2 a1_5).bind fun bt168 => (some (bt168.1, bt168.2))))
theorem plan_Put.mono : ∀ a0 a1 a2 a3 a4 a5 a6 a7 k, LeO (plan_Put.f k a0 a1 a2 a3 a4 a5 a6 a7) (plan_Put.f (k + 1) a0 a1 a2 a3 a4 a5 a6 a7) := by
 intro a0 a1 a2 a3 a4 a5 a6 a7 k
 unfold plan_Put.f
 repeat' first
   | (with_reducible exact pack_Box_Flag.mono _ _ _ _)
   | (with_reducible exact pack_Box_Put.mono _ _ _ _)
   | (with_reducible exact LeO.refl _)
   | (with_reducible exact LeO.none _)
   | (with_reducible refine LeO.ite ?_ ?_)
   | (with_reducible refine LeO.bind ?_ (fun _ => ?_))
   | exact pack_Box_Flag.mono _ _ _ _
   | exact pack_Box_Put.mono _ _ _ _
   | exact LeO.none _
   | refine LeO.ite ?_ ?_
   | refine LeO.bind ?_ (fun _ => ?_)
def plan_Put.T1 : Bool × List (List Nat × List Nat) := (true, [([], []), ([], []), ([1], [1]), ([], []), ([3], [3]), ([4], [4]), ([], []), ([6], [6]), ([], []), ([8], [8]), ([2, 5, 7, 9], [2, 5, 7, 9]), ([0, 10], [0, 10]), ([], []), ([12], [12]), ([11, 13, 11], [11, 13]), ([], []), ([15], [15]), ([14, 16, 14], [14, 16])])
def plan_Put.B1 : List Nat := [0, 0, 2, 0, 8, 24, 0, 64, 0, 256, 1022, 2047, 0, 4096, 16383, 0, 32768, 131071]
theorem plan_Put.tab1 : rtab .any (opsOf Try.f31 1) = plan_Put.T1 := by kernel_rfl
theorem plan_Put.bits1 : waitsOk plan_Put.T1.2 plan_Put.B1 = true := by kernel_rfl
set_option maxHeartbeats 40000000 in
set_option maxRecDepth 100000 in
theorem plan_Put.calls (k : Nat) (gx0 : Nat) (P0_0_ : Nat → Prop) (u9000_ : Value) (l0_0 : List Int) (a0_1 : Int) (a1_0 : Int) (a1_1 : Int) (a1_2 : Int) (a1_3 : Int) (a1_4 : Bool) (a1_5 : Bool) (r1 : List Int) (r2 : Int) (w0 w : World) (hB : Below w0.heap.size w0 w) (hbx0 : w.heap[gx0]? = some (.cells #[u9000_, .int .i64 a0_1] 60 (0, 0))) (hge0 : w0.heap.size ≤ gx0) (ho0_0 : Kd.R (Kd.int .u8) 5 w w0.heap.size P0_0_ u9000_ l0_0) (h : plan_Put.f k l0_0 a0_1 a1_0 a1_1 a1_2 a1_3 a1_4 a1_5 = some (r1, r2)) :
  Calls Try.prog 31 #[.pointer (some ⟨gx0, 0, none⟩), .agg #[.int .i64 a1_0, .int .u8 a1_1, .int .i64 a1_2, .int .i64 a1_3, .bool a1_4, .bool a1_5]] w fun e w' => ∃ v0_ : Value, e = .returned (.tuple #[]) ∧ Kd.R (Kd.int .u8) 5 w' w0.heap.size (fun k_ => (P0_0_ k_ ∨ w.heap.size ≤ k_)) v0_ r1 ∧ w'.heap[gx0]? = some (.cells #[v0_, .int .i64 r2] 60 (0, 0)) ∧ Below w0.heap.size w0 w' ∧ Kept w w' (fun k_ => (P0_0_ k_) ∨ k_ = gx0) := by
 have hu23 := Try.underlying23
 have BK0 := Aside0.mk hbx0
 have GE0 := Aside0.mk hge0
 clear hbx0 hge0
 have HO0_0 := Aside0.mk (show Kd.R (Kd.int .u8) 5 w w0.heap.size (fun k_ => (P0_0_ k_ ∨ w.heap.size ≤ k_)) u9000_ l0_0 from Kd.R_mono ho0_0 (fun k_ hk => (.inl hk)))
 have HK := Aside0.mk (Kept.refl w (fun k_ => (P0_0_ k_) ∨ k_ = gx0))
 have HW0 := Aside0.mk hB.size
 have HB := Aside0.mk hB
 clear hB
 have H : ((pack_Box_Put.f k l0_0 a0_1 (([a1_0, wrap64 (a1_1), a1_2, a1_3] : List Int))).bind fun bt160 => ((pack_Box_Flag.f k bt160.1 bt160.2 a1_4).bind fun bt164 => ((pack_Box_Flag.f k bt164.1 bt164.2 a1_5).bind fun bt168 => (some (bt168.1, bt168.2))))) = some (r1, r2) := h
 clear h
 obtain ⟨y157, hy157⟩ : ∃ y_ : List Int, y_ = (([a1_0, wrap64 (a1_1), a1_2, a1_3] : List Int)) := ⟨_, rfl⟩
 replace H : ((pack_Box_Put.f k l0_0 a0_1 y157).bind fun bt160 => ((pack_Box_Flag.f k bt160.1 bt160.2 a1_4).bind fun bt164 => ((pack_Box_Flag.f k bt164.1 bt164.2 a1_5).bind fun bt168 => (some (bt168.1, bt168.2))))) = some (r1, r2) := by first | (rw [hy157]; with_reducible exact H) | (have H2_ := (Option.bind_some _ _).symm.trans H; rw [hy157]; with_reducible exact H2_) | (have H2_ := (Option.bind_some _ _).symm.trans H; with_reducible exact H2_) | with_reducible exact H | (rw [hy157]; exact H) | exact H
 have Ny157 := Aside0.mk hy157
 clear hy157
 replace H := Option.bind_eq_some_iff.mp H
 obtain ⟨⟨t160, t163⟩, A30, H⟩ := H
 replace H : ((pack_Box_Flag.f k t160 t163 a1_4).bind fun bt164 => ((pack_Box_Flag.f k bt164.1 bt164.2 a1_5).bind fun bt168 => (some (bt168.1, bt168.2)))) = some (r1, r2) := H
 have A3 := Aside0.mk A30
 clear A30
 replace H := Option.bind_eq_some_iff.mp H
 obtain ⟨⟨t164, t167⟩, A40, H⟩ := H
 replace H : ((pack_Box_Flag.f k t164 t167 a1_5).bind fun bt168 => (some (bt168.1, bt168.2))) = some (r1, r2) := H
 have A4 := Aside0.mk A40
 clear A40
 replace H := Option.bind_eq_some_iff.mp H
 obtain ⟨⟨t168, t171⟩, A50, H⟩ := H
 replace H : (some (t168, t171)) = some (r1, r2) := H
 have A5 := Aside0.mk A50
 clear A50
 simp only [Option.some.injEq, Prod.mk.injEq] at H
 obtain ⟨rfl, rfl⟩ := H
 go_enter Try.func31, Try.ntmps31
 try go_wp2_with (first | ((with_reducible refine gate_dst (N := 3) rfl ?_); refine box_event ?hg (N := 3) ?hd (cs := #[.int .i64 a1_0, .int .u8 a1_1, .int .i64 a1_2, .int .i64 a1_3, .bool a1_4, .bool a1_5]) (t := 23) ?hr ?_; (case hd => rfl); (case hg => rfl); (case hr => first | (go_simp; done) | (go_simp; rfl)); intro gb156 hg w6 hbox hb; have n0_ := Aside0.mk (Kd.R_below (by (with_reducible repeat (first | apply Kd.R_alloc | apply Kd.R_drewN | apply Kd.R_drew)); exact HO0_0.out) hb); have n1_ := Aside0.mk (blk_below (g := gx0) (o := .cells #[u9000_, .int .i64 a0_1] 60 (0, 0)) (by (with_reducible repeat (first | refine kN ?_ _ | refine kD ?_ | refine kA ?_ _)); exact BK0.out) hb); have n2_ := Aside0.mk (Kept.below (S := (fun k_ => (P0_0_ k_) ∨ k_ = gx0)) (by repeat (first | (with_reducible first | exact HK.out | apply Kept.alloc | apply Kept.drewN | apply Kept.drew | refine Kept.setCell ?_ (.inl (.inr rfl)) _ | refine Kept.setCell ?_ (.inr GW0.out) _) | exact HK.out)) hb); have n3_ := Aside0.mk (below_step (by repeat (first | (with_reducible first | exact HB.out | apply kL | apply kM | apply kE | refine kS ?_ GE0.out) | exact HB.out)) hb); have n4_ := Aside0.mk (hbox); have n5_ := Aside0.mk ((by rw [hg]; exact (by first | exact HK.out.1 | exact (show Kept w _ (fun k_ => (P0_0_ k_) ∨ k_ = gx0) from by repeat (first | (with_reducible first | exact HK.out | apply Kept.alloc | apply Kept.drewN | apply Kept.drew | refine Kept.setCell ?_ (.inl (.inr rfl)) _ | refine Kept.setCell ?_ (.inr GW0.out) _) | exact HK.out)).1) : w.heap.size ≤ gb156)); have n6_ := Aside0.mk ((by rw [hg]; exact (below_size (by repeat (first | (with_reducible first | exact HB.out | apply kL | apply kM | apply kE | refine kS ?_ GE0.out) | exact HB.out))) : w0.heap.size ≤ gb156)); have n7_ := Aside0.mk ((by rw [hg]; exact Nat.ne_of_lt (blk_lt (g := gx0) (o := .cells #[u9000_, .int .i64 a0_1] 60 (0, 0)) (by (with_reducible repeat (first | refine kN ?_ _ | refine kD ?_ | refine kA ?_ _)); exact BK0.out)) : gx0 ≠ gb156)); have n8_ := Aside0.mk ((by rw [hg]; exact Nat.ne_of_gt (blk_lt (g := gx0) (o := .cells #[u9000_, .int .i64 a0_1] 60 (0, 0)) (by (with_reducible repeat (first | refine kN ?_ _ | refine kD ?_ | refine kA ?_ _)); exact BK0.out)) : gb156 ≠ gx0)); clear HO0_0; clear BK0; clear HK; clear HB; have HO0_0 := n0_; have BK0 := n1_; have HK := n2_; have HB := n3_; have BK156 := n4_; have GW156 := n5_; have GE156 := n6_; have NB0_156 := n7_; have NB156_0 := n8_; clear n0_ n1_ n2_ n3_ n4_ n5_ n6_ n7_ n8_; clear hb hbox hg))
 have n0_ := Aside0.mk (Kd.R_drew HO0_0.out)
 have n1_ := Aside0.mk (kD BK0.out)
 have n2_ := Aside0.mk (kD BK156.out)
 have n3_ := Aside0.mk (Kept.drew HK.out)
 have n4_ := Aside0.mk (kE HB.out)
 clear HO0_0
 clear BK0
 clear BK156
 clear HK
 clear HB
 have HO0_0 := n0_
 have BK0 := n1_
 have BK156 := n2_
 have HK := n3_
 have HB := n4_
 clear n0_ n1_ n2_ n3_ n4_
 refine start_ (n := 18) (S := fun w' => w'.cell? ⟨gb156, 0, none⟩ = some (.int .i64 a1_0) ∧ w'.cell? ⟨gb156, 1, none⟩ = some (.int .u8 a1_1) ∧ w'.cell? ⟨gb156, 2, none⟩ = some (.int .i64 a1_2) ∧ w'.cell? ⟨gb156, 3, none⟩ = some (.int .i64 a1_3) ∧ w'.cell? ⟨gb156, 4, none⟩ = some (.bool a1_4) ∧ w'.cell? ⟨gb156, 5, none⟩ = some (.bool a1_5)) (ds := []) #[F,F,F,F,F,F,F,F,F,F,F,F,F,F,F,F,F,F] (by kernel_rfl) rfl rfl ⟨(kC BK156.out 0).trans rfl, (kC BK156.out 1).trans rfl, (kC BK156.out 2).trans rfl, (kC BK156.out 3).trans rfl, (kC BK156.out 4).trans rfl, (kC BK156.out 5).trans rfl⟩ (fun hHeld => ?_); refine with_tabW plan_Put.tab1 plan_Put.bits1 (fun HT_ HW_ => ?_)
 generalize w6.drew = w7 at HO0_0 BK0 BK156 HK HB hHeld ⊢
 refine pure_ (i := 0) (N := some 4) (v := ?_) (a' := ?_) #[T,F,F,F,F,F,F,F,F,F,F,F,F,F,F,F,F,F] rfl rfl (any_of HT_.out (by kernel_rfl)) (fun _ _ _ h => h) (Or.inl ⟨by rfl, ?_⟩) ?_ ?_
 rotate_left
 ·intro w'
  go_simp
  with_reducible rfl
 rotate_left
 ·simp only [Act.put, List.setIfInBounds_toArray, List.set_cons_zero, List.set_cons_succ, i64_w, i32_w]
  rfl
 refine pure_ (i := 1) (N := some 5) (v := ?_) (a' := ?_) #[T,T,F,F,F,F,F,F,F,F,F,F,F,F,F,F,F,F] rfl rfl (any_of HT_.out (by kernel_rfl)) (fun _ _ _ h => h) (Or.inl ⟨by rfl, ?_⟩) ?_ ?_
 rotate_left
 ·intro w'
  go_simp
  with_reducible rfl
 rotate_left
 ·simp only [Act.put, List.setIfInBounds_toArray, List.set_cons_zero, List.set_cons_succ, i64_w, i32_w]
  rfl
 refine pure_ (i := 3) (N := some 7) (v := ?_) (a' := ?_) #[T,T,F,T,F,F,F,F,F,F,F,F,F,F,F,F,F,F] rfl rfl (any_of HT_.out (by kernel_rfl)) (fun _ _ _ h => h) (Or.inl ⟨by rfl, ?_⟩) ?_ ?_
 rotate_left
 ·intro w'
  go_simp
  with_reducible rfl
 rotate_left
 ·simp only [Act.put, List.setIfInBounds_toArray, List.set_cons_zero, List.set_cons_succ, i64_w, i32_w]
  rfl
 refine pure_ (i := 6) (N := some 10) (v := ?_) (a' := ?_) #[T,T,F,T,F,F,T,F,F,F,F,F,F,F,F,F,F,F] rfl rfl (any_of HT_.out (by kernel_rfl)) (fun _ _ _ h => h) (Or.inl ⟨by rfl, ?_⟩) ?_ ?_
 rotate_left
 ·intro w'
  go_simp
  with_reducible rfl
 rotate_left
 ·simp only [Act.put, List.setIfInBounds_toArray, List.set_cons_zero, List.set_cons_succ, i64_w, i32_w]
  rfl
 refine pure_ (i := 8) (N := some 12) (v := ?_) (a' := ?_) #[T,T,F,T,F,F,T,F,T,F,F,F,F,F,F,F,F,F] rfl rfl (any_of HT_.out (by kernel_rfl)) (fun _ _ _ h => h) (Or.inl ⟨by rfl, ?_⟩) ?_ ?_
 rotate_left
 ·intro w'
  go_simp
  with_reducible rfl
 rotate_left
 ·simp only [Act.put, List.setIfInBounds_toArray, List.set_cons_zero, List.set_cons_succ, i64_w, i32_w]
  rfl
 refine pure_ (i := 12) (N := some 16) (v := ?_) (a' := ?_) #[T,T,F,T,F,F,T,F,T,F,F,F,T,F,F,F,F,F] rfl rfl (any_of HT_.out (by kernel_rfl)) (fun _ _ _ h => h) (Or.inl ⟨by rfl, ?_⟩) ?_ ?_
 rotate_left
 ·intro w'
  go_simp
  with_reducible rfl
 rotate_left
 ·simp only [Act.put, List.setIfInBounds_toArray, List.set_cons_zero, List.set_cons_succ, i64_w, i32_w]
  rfl
 refine pure_ (i := 15) (N := some 19) (v := ?_) (a' := ?_) #[T,T,F,T,F,F,T,F,T,F,F,F,T,F,F,T,F,F] rfl rfl (any_of HT_.out (by kernel_rfl)) (fun _ _ _ h => h) (Or.inl ⟨by rfl, ?_⟩) ?_ ?_
 rotate_left
 ·intro w'
  go_simp
  with_reducible rfl
 rotate_left
 ·simp only [Act.put, List.setIfInBounds_toArray, List.set_cons_zero, List.set_cons_succ, i64_w, i32_w]
  rfl
 refine take_ (i := 2) (N := some 6) (v := ?_) (a' := ?_) #[T,T,T,T,F,F,T,F,T,F,F,F,T,F,F,T,F,F] rfl rfl (take_ofW HT_.out HW_.out (by kernel_rfl)) (fun _ _ _ h => h) (Or.inl ⟨by rfl, ?_⟩) hHeld ?_ ?_
 rotate_left
 ·rintro w' ⟨s0, s1, s2, s3, s4, s5⟩
  go_simp
  with_reducible rfl
 rotate_left
 ·simp only [Act.put, List.setIfInBounds_toArray, List.set_cons_zero, List.set_cons_succ, i64_w, i32_w]
  rfl
 refine take_ (i := 4) (N := some 8) (v := ?_) (a' := ?_) #[T,T,T,T,T,F,T,F,T,F,F,F,T,F,F,T,F,F] rfl rfl (take_ofW HT_.out HW_.out (by kernel_rfl)) (fun _ _ _ h => h) (Or.inl ⟨by rfl, ?_⟩) hHeld ?_ ?_
 rotate_left
 ·rintro w' ⟨s0, s1, s2, s3, s4, s5⟩
  go_simp
  with_reducible rfl
 rotate_left
 ·simp only [Act.put, List.setIfInBounds_toArray, List.set_cons_zero, List.set_cons_succ, i64_w, i32_w]
  rfl
 refine pure_ (i := 5) (N := some 9) (v := ?_) (a' := ?_) #[T,T,T,T,T,T,T,F,T,F,F,F,T,F,F,T,F,F] rfl rfl (any_of HT_.out (by kernel_rfl)) (fun _ _ _ h => h) (Or.inl ⟨by rfl, ?_⟩) ?_ ?_
 rotate_left
 ·intro w'
  go_simp
  with_reducible rfl
 rotate_left
 ·simp only [Act.put, List.setIfInBounds_toArray, List.set_cons_zero, List.set_cons_succ, i64_w, i32_w]
  rfl
 refine take_ (i := 7) (N := some 11) (v := ?_) (a' := ?_) #[T,T,T,T,T,T,T,T,T,F,F,F,T,F,F,T,F,F] rfl rfl (take_ofW HT_.out HW_.out (by kernel_rfl)) (fun _ _ _ h => h) (Or.inl ⟨by rfl, ?_⟩) hHeld ?_ ?_
 rotate_left
 ·rintro w' ⟨s0, s1, s2, s3, s4, s5⟩
  go_simp
  with_reducible rfl
 rotate_left
 ·simp only [Act.put, List.setIfInBounds_toArray, List.set_cons_zero, List.set_cons_succ, i64_w, i32_w]
  rfl
 refine take_ (i := 9) (N := some 13) (v := ?_) (a' := ?_) #[T,T,T,T,T,T,T,T,T,T,F,F,T,F,F,T,F,F] rfl rfl (take_ofW HT_.out HW_.out (by kernel_rfl)) (fun _ _ _ h => h) (Or.inl ⟨by rfl, ?_⟩) hHeld ?_ ?_
 rotate_left
 ·rintro w' ⟨s0, s1, s2, s3, s4, s5⟩
  go_simp
  with_reducible rfl
 rotate_left
 ·simp only [Act.put, List.setIfInBounds_toArray, List.set_cons_zero, List.set_cons_succ, i64_w, i32_w]
  rfl
 refine take_ (i := 13) (N := some 17) (v := ?_) (a' := ?_) #[T,T,T,T,T,T,T,T,T,T,F,F,T,T,F,T,F,F] rfl rfl (take_ofW HT_.out HW_.out (by kernel_rfl)) (fun _ _ _ h => h) (Or.inl ⟨by rfl, ?_⟩) hHeld ?_ ?_
 rotate_left
 ·rintro w' ⟨s0, s1, s2, s3, s4, s5⟩
  go_simp
  with_reducible rfl
 rotate_left
 ·simp only [Act.put, List.setIfInBounds_toArray, List.set_cons_zero, List.set_cons_succ, i64_w, i32_w]
  rfl
 refine take_ (i := 16) (N := some 20) (v := ?_) (a' := ?_) #[T,T,T,T,T,T,T,T,T,T,F,F,T,T,F,T,T,F] rfl rfl (take_ofW HT_.out HW_.out (by kernel_rfl)) (fun _ _ _ h => h) (Or.inl ⟨by rfl, ?_⟩) hHeld ?_ ?_
 rotate_left
 ·rintro w' ⟨s0, s1, s2, s3, s4, s5⟩
  go_simp
  with_reducible rfl
 rotate_left
 ·simp only [Act.put, List.setIfInBounds_toArray, List.set_cons_zero, List.set_cons_succ, i64_w, i32_w]
  rfl
 refine one_ (i := 10) (N := some 14) #[T,T,T,T,T,T,T,T,T,T,T,F,T,T,F,T,T,F] rfl rfl (one_of HT_.out (by kernel_rfl)) (by decide) (fun K hK => ?_)
 refine Kd.R_lit_step (Kd.int .i64) _ 2 ?hg (N := 14) ?hd (xs := ([a1_0, wrap64 (a1_1), a1_2, a1_3] : List Int)) (inner := [.int .i64 a1_0, .int .i64 (wrap64 (a1_1)), .int .i64 a1_2, .int .i64 a1_3]) (ok := fun _ => True) (okp := fun _ => True) ?hr ?hp (fun _ hk => hk) trivial (Below.refl _ _) (Nat.le_refl _) (by simp) ?_; (case hd => rfl); (case hg => rfl); (case hr => first | (go_simp; done) | (go_simp; rfl)); (case hp => exact (Reps.one (show Kd.M (Kd.int .i64) _ _ _ a1_0 [.int .i64 a1_0] from rfl) (Reps.one (show Kd.M (Kd.int .i64) _ _ _ (wrap64 (a1_1)) [.int .i64 (wrap64 (a1_1))] from rfl) (Reps.one (show Kd.M (Kd.int .i64) _ _ _ a1_2 [.int .i64 a1_2] from rfl) (Reps.one (show Kd.M (Kd.int .i64) _ _ _ a1_3 [.int .i64 a1_3] from rfl) (Reps.none _ _))))))
 intro v158 w8 ho9 hb hg_ hnew_
 clear hg_ hnew_
 (first | rw [← Ny157.out] at ho9 | (simp only [Int.reduceToNat] at ho9; rw [← Ny157.out] at ho9))
 have n0_ := Aside0.mk (Kd.R_below (by (with_reducible repeat (first | apply Kd.R_alloc | apply Kd.R_drewN | apply Kd.R_drew)); exact HO0_0.out) hb)
 have n1_ := Aside0.mk (Kd.R_lower (Kd.R_newM (M := fun k_ => (P0_0_ k_ ∨ w.heap.size ≤ k_)) ho9 (by first | exact HK.out.1 | exact (show Kept w _ (fun k_ => (P0_0_ k_) ∨ k_ = gx0) from by repeat (first | (with_reducible first | exact HK.out | apply Kept.alloc | apply Kept.drewN | apply Kept.drew | refine Kept.setCell ?_ (.inl (.inr rfl)) _ | refine Kept.setCell ?_ (.inr GW0.out) _ | refine Kept.setCell ?_ (.inr GW156.out) _) | exact HK.out)).1) (fun k_ h_ => .inr h_)) (below_size (by repeat (first | (with_reducible first | exact HB.out | apply kL | apply kM | apply kE | refine kS ?_ GE0.out | refine kS ?_ GE156.out) | exact HB.out))))
 have n2_ := Aside0.mk (blk_below (g := gx0) (o := .cells #[u9000_, .int .i64 a0_1] 60 (0, 0)) (by (with_reducible repeat (first | refine kN ?_ _ | refine kD ?_ | refine kA ?_ _)); exact BK0.out) hb)
 have n3_ := Aside0.mk (blk_below (g := gb156) (o := .cells #[.int .i64 a1_0, .int .u8 a1_1, .int .i64 a1_2, .int .i64 a1_3, .bool a1_4, .bool a1_5] 23 (0, 0)) (by (with_reducible repeat (first | refine kN ?_ _ | refine kD ?_ | refine kA ?_ _)); exact BK156.out) hb)
 have n4_ := Aside0.mk (Kept.below (S := (fun k_ => (P0_0_ k_) ∨ k_ = gx0)) (by repeat (first | (with_reducible first | exact HK.out | apply Kept.alloc | apply Kept.drewN | apply Kept.drew | refine Kept.setCell ?_ (.inl (.inr rfl)) _ | refine Kept.setCell ?_ (.inr GW0.out) _ | refine Kept.setCell ?_ (.inr GW156.out) _) | exact HK.out)) hb)
 have n5_ := Aside0.mk (below_step (by repeat (first | (with_reducible first | exact HB.out | apply kL | apply kM | apply kE | refine kS ?_ GE0.out | refine kS ?_ GE156.out) | exact HB.out)) hb)
 clear HO0_0
 clear BK0
 clear BK156
 clear HK
 clear HB
 have HO0_0 := n0_
 have HO159 := n1_
 have BK0 := n2_
 have BK156 := n3_
 have HK := n4_
 have HB := n5_
 clear n0_ n1_ n2_ n3_ n4_ n5_
 clear hb ho9
 obtain ⟨Ao10, co10, eo10⟩ := Kd.R_slice HO159.out
 (first | subst eo10 | (injection eo10 with f1_ f2_ f3_; have f4_ := f1_.symm; have f5_ := f3_.symm; clear f1_ f2_ f3_; subst f4_; subst f5_))
 refine hK.out _ _ ⟨(kC BK156.out 0).trans rfl, (kC BK156.out 1).trans rfl, (kC BK156.out 2).trans rfl, (kC BK156.out 3).trans rfl, (kC BK156.out 4).trans rfl, (kC BK156.out 5).trans rfl⟩ (fun hHeld => ?_)
 clear hK K
 refine norm_ (a' := ?_) ?_ ?_
 rotate_left
 ·show Act.put _ (some 14) _ = _
  simp only [Act.put, List.setIfInBounds_toArray, List.set_cons_zero, List.set_cons_succ, i64_w, i32_w]
  rfl
 refine one_ (i := 11) (N := some 15) #[T,T,T,T,T,T,T,T,T,T,T,T,T,T,F,T,T,F] rfl rfl (one_of HT_.out (by kernel_rfl)) (by decide) (fun K hK => ?_)
 refine goes_ Try.func30 (by kernel_rfl) rfl #[.pointer (some ⟨gx0, 0, none⟩), .slice Ao10 y157.length co10] (by rfl) rfl rfl (by (try simp only [List.map_toArray, List.map_cons, List.map_nil]); first | done | rfl | (simp only [List.length_drop, List.length_take]; rfl)) ?_
 with_reducible refine (pack_Box_Put.calls k gx0 (fun k_ => some k_ = (u9000_ : Value).ownBlock) u9000_ l0_0 a0_1 _ _ y157 t160 t163 w0 _ ?side1 ?side2 ?side3 ?side4 ?side5 ?side6 A3.out).mono ?_
 (case side1 => repeat (first | (with_reducible first | exact HB.out | apply kL | apply kM | apply kE | refine kS ?_ GE0.out | refine kS ?_ GE156.out) | exact HB.out))
 (case side2 => exact (by (with_reducible repeat (first | refine kN ?_ _ | refine kD ?_ | refine kA ?_ _)); exact BK0.out))
 (case side3 => exact GE0.out)
 (case side4 => exact Kd.R_tight rfl HO0_0.out)
 (case side5 => exact Kd.C_kept_own ((Kd.R_types (Kd.R_apart' HO159.out (Kd.R_typed HO0_0.out) (by decide)) BK0.out (by decide))) (fun k_ hk_ hs_ => Or.elim hs_ (fun hs_ => (hk_.1.2) hs_) (fun e_ => (hk_.2) e_)))
 (case side6 => exact (Kd.R_reads' HO159.out).2.1)
 rintro e w11 ⟨v161, rfl, ho0, hi, hb, hkp⟩
 refine ⟨_, rfl, ?_⟩
 have n0_ := Aside0.mk (hi)
 have n1_ := Aside0.mk (blk_kept (by (with_reducible repeat (first | refine kN ?_ _ | refine kD ?_ | refine kA ?_ _)); exact BK156.out) hkp (fun hs_ => Or.elim hs_ (fun hs_ => (fun e_ => (Kd.R_ne HO0_0.out BK156.out (by decide)) e_) hs_) (fun e_ => NB156_0.out e_)))
 have n2_ := Aside0.mk (Kd.R_mono (ok' := fun k_ => (P0_0_ k_ ∨ w.heap.size ≤ k_)) (Kd.R_keptB ((Kd.R_types (Kd.R_apart' HO159.out (Kd.R_typed HO0_0.out) (by decide)) BK0.out (by decide))) hkp (fun k_ hk_ hs_ => Or.elim hs_ (fun hs_ => (hk_.1.2) hs_) (fun e_ => (hk_.2) e_))) (fun k_ hk_ => hk_.1.1.1.1))
 have n3_ := Aside0.mk (Kd.R_mono (ok' := fun k_ => (P0_0_ k_ ∨ w.heap.size ≤ k_)) ho0 (fun k_ hk_ => Or.elim hk_ (fun hs_ => (HO0_0.out.1 k_ (hs_).symm)) (fun hn_ => (.inr (Nat.le_trans (by first | exact HK.out.1 | exact (show Kept w _ (fun k_ => (P0_0_ k_) ∨ k_ = gx0) from by repeat (first | (with_reducible first | exact HK.out | apply Kept.alloc | apply Kept.drewN | apply Kept.drew | refine Kept.setCell ?_ (.inl (.inr rfl)) _ | refine Kept.setCell ?_ (.inr GW0.out) _ | refine Kept.setCell ?_ (.inr GW156.out) _) | exact HK.out)).1) hn_)))))
 have n4_ := Aside0.mk (Kept.then_ (S := (fun k_ => (P0_0_ k_) ∨ k_ = gx0)) (by repeat (first | (with_reducible first | exact HK.out | apply Kept.alloc | apply Kept.drewN | apply Kept.drew | refine Kept.setCell ?_ (.inl (.inr rfl)) _ | refine Kept.setCell ?_ (.inr GW0.out) _ | refine Kept.setCell ?_ (.inr GW156.out) _) | exact HK.out)) hkp (fun k_ hs_ => Or.elim hs_ (fun hs_ => (fun e_ => Or.imp_left Or.inl ((HO0_0.out.1 k_ e_.symm))) hs_) (fun e_ => .inl (.inr e_))))
 have n5_ := Aside0.mk (hb)
 clear BK0
 clear BK156
 clear HO159
 clear HK
 clear HB
 clear HO0_0
 have BK0 := n0_
 have BK156 := n1_
 have HO159 := n2_
 have HO162 := n3_
 have HK := n4_
 have HB := n5_
 clear n0_ n1_ n2_ n3_ n4_ n5_
 (try clear hb)
 (try clear hkp)
 (try clear hi)
 (try clear ho0)
 refine hK.out _ _ ⟨(kC BK156.out 0).trans rfl, (kC BK156.out 1).trans rfl, (kC BK156.out 2).trans rfl, (kC BK156.out 3).trans rfl, (kC BK156.out 4).trans rfl, (kC BK156.out 5).trans rfl⟩ (fun hHeld => ?_)
 clear hK K
 refine norm_ (a' := ?_) ?_ ?_
 rotate_left
 ·show Act.put _ (some 15) _ = _
  simp only [Act.put, List.setIfInBounds_toArray, List.set_cons_zero, List.set_cons_succ, i64_w, i32_w]
  rfl
 refine one_ (i := 14) (N := some 18) #[T,T,T,T,T,T,T,T,T,T,T,T,T,T,T,T,T,F] rfl rfl (one_of HT_.out (by kernel_rfl)) (by decide) (fun K hK => ?_)
 refine goes_ Try.func36 (by kernel_rfl) rfl #[.pointer (some ⟨gx0, 0, none⟩), .bool a1_4] (by rfl) rfl rfl (by (try simp only [List.map_toArray, List.map_cons, List.map_nil]); first | done | rfl | (simp only [List.length_drop, List.length_take]; rfl)) ?_
 with_reducible refine (pack_Box_Flag.calls k gx0 (fun k_ => some k_ = (v161 : Value).ownBlock) v161 t160 t163 a1_4 t164 t167 w0 _ ?side1 ?side2 ?side3 ?side4 A4.out).mono ?_
 (case side1 => repeat (first | (with_reducible first | exact HB.out | apply kL | apply kM | apply kE | refine kS ?_ GE0.out | refine kS ?_ GE156.out) | exact HB.out))
 (case side2 => exact (by (with_reducible repeat (first | refine kN ?_ _ | refine kD ?_ | refine kA ?_ _)); exact BK0.out))
 (case side3 => exact GE0.out)
 (case side4 => exact Kd.R_tight rfl HO162.out)
 rintro e w12 ⟨v165, rfl, ho0, hi, hb, hkp⟩
 refine ⟨_, rfl, ?_⟩
 have n0_ := Aside0.mk (hi)
 have n1_ := Aside0.mk (blk_kept (by (with_reducible repeat (first | refine kN ?_ _ | refine kD ?_ | refine kA ?_ _)); exact BK156.out) hkp (fun hs_ => Or.elim hs_ (fun hs_ => (fun e_ => (Kd.R_ne HO162.out BK156.out (by decide)) e_) hs_) (fun e_ => NB156_0.out e_)))
 have n2_ := Aside0.mk (Kd.R_mono (ok' := fun k_ => (P0_0_ k_ ∨ w.heap.size ≤ k_)) (Kd.R_keptB ((Kd.R_types (Kd.R_apart' HO159.out (Kd.R_typed HO162.out) (by decide)) BK0.out (by decide))) hkp (fun k_ hk_ hs_ => Or.elim hs_ (fun hs_ => (hk_.1.2) hs_) (fun e_ => (hk_.2) e_))) (fun k_ hk_ => hk_.1.1.1))
 have n3_ := Aside0.mk (Kd.R_mono (ok' := fun k_ => (P0_0_ k_ ∨ w.heap.size ≤ k_)) ho0 (fun k_ hk_ => Or.elim hk_ (fun hs_ => (HO162.out.1 k_ (hs_).symm)) (fun hn_ => (.inr (Nat.le_trans (by first | exact HK.out.1 | exact (show Kept w _ (fun k_ => (P0_0_ k_) ∨ k_ = gx0) from by repeat (first | (with_reducible first | exact HK.out | apply Kept.alloc | apply Kept.drewN | apply Kept.drew | refine Kept.setCell ?_ (.inl (.inr rfl)) _ | refine Kept.setCell ?_ (.inr GW0.out) _ | refine Kept.setCell ?_ (.inr GW156.out) _) | exact HK.out)).1) hn_)))))
 have n4_ := Aside0.mk (Kept.then_ (S := (fun k_ => (P0_0_ k_) ∨ k_ = gx0)) (by repeat (first | (with_reducible first | exact HK.out | apply Kept.alloc | apply Kept.drewN | apply Kept.drew | refine Kept.setCell ?_ (.inl (.inr rfl)) _ | refine Kept.setCell ?_ (.inr GW0.out) _ | refine Kept.setCell ?_ (.inr GW156.out) _) | exact HK.out)) hkp (fun k_ hs_ => Or.elim hs_ (fun hs_ => (fun e_ => Or.imp_left Or.inl ((HO162.out.1 k_ e_.symm))) hs_) (fun e_ => .inl (.inr e_))))
 have n5_ := Aside0.mk (hb)
 clear BK0
 clear BK156
 clear HO159
 clear HK
 clear HB
 clear HO162
 have BK0 := n0_
 have BK156 := n1_
 have HO159 := n2_
 have HO166 := n3_
 have HK := n4_
 have HB := n5_
 clear n0_ n1_ n2_ n3_ n4_ n5_
 (try clear hb)
 (try clear hkp)
 (try clear hi)
 (try clear ho0)
 refine hK.out _ _ ⟨(kC BK156.out 0).trans rfl, (kC BK156.out 1).trans rfl, (kC BK156.out 2).trans rfl, (kC BK156.out 3).trans rfl, (kC BK156.out 4).trans rfl, (kC BK156.out 5).trans rfl⟩ (fun hHeld => ?_)
 clear hK K
 refine norm_ (a' := ?_) ?_ ?_
 rotate_left
 ·show Act.put _ (some 18) _ = _
  simp only [Act.put, List.setIfInBounds_toArray, List.set_cons_zero, List.set_cons_succ, i64_w, i32_w]
  rfl
 refine one_ (i := 17) (N := some 21) #[T,T,T,T,T,T,T,T,T,T,T,T,T,T,T,T,T,T] rfl rfl (one_of HT_.out (by kernel_rfl)) (by decide) (fun K hK => ?_)
 refine goes_ Try.func36 (by kernel_rfl) rfl #[.pointer (some ⟨gx0, 0, none⟩), .bool a1_5] (by rfl) rfl rfl (by (try simp only [List.map_toArray, List.map_cons, List.map_nil]); first | done | rfl | (simp only [List.length_drop, List.length_take]; rfl)) ?_
 with_reducible refine (pack_Box_Flag.calls k gx0 (fun k_ => some k_ = (v165 : Value).ownBlock) v165 t164 t167 a1_5 t168 t171 w0 _ ?side1 ?side2 ?side3 ?side4 A5.out).mono ?_
 (case side1 => repeat (first | (with_reducible first | exact HB.out | apply kL | apply kM | apply kE | refine kS ?_ GE0.out | refine kS ?_ GE156.out) | exact HB.out))
 (case side2 => exact (by (with_reducible repeat (first | refine kN ?_ _ | refine kD ?_ | refine kA ?_ _)); exact BK0.out))
 (case side3 => exact GE0.out)
 (case side4 => exact Kd.R_tight rfl HO166.out)
 rintro e w13 ⟨v169, rfl, ho0, hi, hb, hkp⟩
 refine ⟨_, rfl, ?_⟩
 have n0_ := Aside0.mk (hi)
 have n1_ := Aside0.mk (blk_kept (by (with_reducible repeat (first | refine kN ?_ _ | refine kD ?_ | refine kA ?_ _)); exact BK156.out) hkp (fun hs_ => Or.elim hs_ (fun hs_ => (fun e_ => (Kd.R_ne HO166.out BK156.out (by decide)) e_) hs_) (fun e_ => NB156_0.out e_)))
 have n2_ := Aside0.mk (Kd.R_mono (ok' := fun k_ => (P0_0_ k_ ∨ w.heap.size ≤ k_)) (Kd.R_keptB ((Kd.R_types (Kd.R_apart' HO159.out (Kd.R_typed HO166.out) (by decide)) BK0.out (by decide))) hkp (fun k_ hk_ hs_ => Or.elim hs_ (fun hs_ => (hk_.1.2) hs_) (fun e_ => (hk_.2) e_))) (fun k_ hk_ => hk_.1.1.1))
 have n3_ := Aside0.mk (Kd.R_mono (ok' := fun k_ => (P0_0_ k_ ∨ w.heap.size ≤ k_)) ho0 (fun k_ hk_ => Or.elim hk_ (fun hs_ => (HO166.out.1 k_ (hs_).symm)) (fun hn_ => (.inr (Nat.le_trans (by first | exact HK.out.1 | exact (show Kept w _ (fun k_ => (P0_0_ k_) ∨ k_ = gx0) from by repeat (first | (with_reducible first | exact HK.out | apply Kept.alloc | apply Kept.drewN | apply Kept.drew | refine Kept.setCell ?_ (.inl (.inr rfl)) _ | refine Kept.setCell ?_ (.inr GW0.out) _ | refine Kept.setCell ?_ (.inr GW156.out) _) | exact HK.out)).1) hn_)))))
 have n4_ := Aside0.mk (Kept.then_ (S := (fun k_ => (P0_0_ k_) ∨ k_ = gx0)) (by repeat (first | (with_reducible first | exact HK.out | apply Kept.alloc | apply Kept.drewN | apply Kept.drew | refine Kept.setCell ?_ (.inl (.inr rfl)) _ | refine Kept.setCell ?_ (.inr GW0.out) _ | refine Kept.setCell ?_ (.inr GW156.out) _) | exact HK.out)) hkp (fun k_ hs_ => Or.elim hs_ (fun hs_ => (fun e_ => Or.imp_left Or.inl ((HO166.out.1 k_ e_.symm))) hs_) (fun e_ => .inl (.inr e_))))
 have n5_ := Aside0.mk (hb)
 clear BK0
 clear BK156
 clear HO159
 clear HK
 clear HB
 clear HO166
 have BK0 := n0_
 have BK156 := n1_
 have HO159 := n2_
 have HO170 := n3_
 have HK := n4_
 have HB := n5_
 clear n0_ n1_ n2_ n3_ n4_ n5_
 (try clear hb)
 (try clear hkp)
 (try clear hi)
 (try clear ho0)
 refine hK.out _ _ ⟨(kC BK156.out 0).trans rfl, (kC BK156.out 1).trans rfl, (kC BK156.out 2).trans rfl, (kC BK156.out 3).trans rfl, (kC BK156.out 4).trans rfl, (kC BK156.out 5).trans rfl⟩ (fun hHeld => ?_)
 clear hK K
 refine norm_ (a' := ?_) ?_ ?_
 rotate_left
 ·show Act.put _ (some 21) _ = _
  simp only [Act.put, List.setIfInBounds_toArray, List.set_cons_zero, List.set_cons_succ, i64_w, i32_w]
  rfl
 refine done_ (done_of HT_.out (by kernel_rfl)) ?_
 try go_wp2
 first | go_end0 | ((try simp only [Exit.inBlock, Exit.then]); refine bodyPost_ret (results_none rfl _ _ _) rfl ?_)
 first | exact ⟨(v169), by first | rfl | (simp [errW_none, errW_some] <;> rfl) | (simp [*, errW_none, errW_some] <;> rfl), by (with_reducible repeat (first | apply Kd.R_alloc | apply Kd.R_drewN | apply Kd.R_drew)); exact HO170.out, by (with_reducible repeat (first | refine kN ?_ _ | refine kD ?_ | refine kA ?_ _)); exact BK0.out, by repeat (first | (with_reducible first | exact HB.out | apply kL | apply kM | apply kE | refine kS ?_ GE0.out | refine kS ?_ GE156.out) | exact HB.out), by repeat (first | (with_reducible first | exact HK.out | apply Kept.alloc | apply Kept.drewN | apply Kept.drew | refine Kept.setCell ?_ (.inl (.inr rfl)) _ | refine Kept.setCell ?_ (.inr GW0.out) _ | refine Kept.setCell ?_ (.inr GW156.out) _) | exact HK.out)⟩ | exact ⟨rfl, (v169), by (with_reducible repeat (first | apply Kd.R_alloc | apply Kd.R_drewN | apply Kd.R_drew)); exact HO170.out, by (with_reducible repeat (first | refine kN ?_ _ | refine kD ?_ | refine kA ?_ _)); exact BK0.out, by repeat (first | (with_reducible first | exact HB.out | apply kL | apply kM | apply kE | refine kS ?_ GE0.out | refine kS ?_ GE156.out) | exact HB.out), by repeat (first | (with_reducible first | exact HK.out | apply Kept.alloc | apply Kept.drewN | apply Kept.drew | refine Kept.setCell ?_ (.inl (.inr rfl)) _ | refine Kept.setCell ?_ (.inr GW0.out) _ | refine Kept.setCell ?_ (.inr GW156.out) _) | exact HK.out)⟩

end Go.Proofs.Ytlihgjonmliodaa.PA
