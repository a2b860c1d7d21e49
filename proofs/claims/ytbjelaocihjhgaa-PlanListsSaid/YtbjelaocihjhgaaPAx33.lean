-- printed by this workplace: wip/patchprint.py over the kit's print
import Derived.Test.YtbjelaocihjhgaaPAx0
import Derived.Test.YtbjelaocihjhgaaPAx12
namespace Go.Proofs.Ytbjelaocihjhgaa.PA
open Go.RowKit Go.Proofs.YtbjelaocihjhgaaW.PrintWords Go.Proofs.YtbjelaocihjhgaaW.PrintLast Go.Proofs.YtbjelaocihjhgaaW.PrintMore
attribute [local go_sem] max2_int min2_int max_two min_two max_three min_three max_four min_four   -- for this text's walks alone
set_option linter.unusedVariables false
set_option linter.unusedSimpArgs false

/-! ### plan_List_Add: function 14 -/
def plan_List_Add.f (k : Nat) (l0 : List (S23)) (a1_0 : Int) (a1_1 : Int) (a1_2 : Int) (a1_3 : Int) (a1_4 : Bool) (a1_5 : Bool) : Option ((List (S23)) × Int × Int) := (plan_Right.f k a1_0 a1_1 a1_2 a1_3 a1_4 a1_5).bind fun t392 => (if t392 = 0 then (if (l0.length : Int) ≥ 8 then (some (([] : List (S23)), 0, 3)) else (if ([] : List (S23)).length + l0.length < 3518437208883 then ((some (([] : List (S23)) ++ l0 : List (S23))).bind fun y393 => ((some (([(⟨a1_0, a1_1, a1_2, a1_3, a1_4, a1_5⟩ : S23)] : List (S23)) : List (S23))).bind fun y396 => (if y393.length + y396.length < 3518437208883 then (some ((y393 ++ y396), (l0.length : Int), 0)) else (none)))) else (none))) else (some (([] : List (S23)), 0, t392)))
theorem plan_List_Add.mono : ∀ a0 a1 a2 a3 a4 a5 a6 k, LeO (plan_List_Add.f k a0 a1 a2 a3 a4 a5 a6) (plan_List_Add.f (k + 1) a0 a1 a2 a3 a4 a5 a6) := by
 intro a0 a1 a2 a3 a4 a5 a6 k
 unfold plan_List_Add.f
 repeat' first
   | (with_reducible exact plan_Right.mono _ _ _ _ _ _ _)
   | (with_reducible exact LeO.refl _)
   | (with_reducible exact LeO.none _)
   | (with_reducible refine LeO.ite ?_ ?_)
   | (with_reducible refine LeO.bind ?_ (fun _ => ?_))
   | exact plan_Right.mono _ _ _ _ _ _ _
   | exact LeO.none _
   | refine LeO.ite ?_ ?_
   | refine LeO.bind ?_ (fun _ => ?_)
def plan_List_Add.T6 : Bool × List (List Nat × List Nat) := (true, [([], []), ([0], [0]), ([], []), ([2], [2]), ([1, 3, 1], [1, 3]), ([], []), ([5], [5]), ([4, 4, 0, 1, 2, 3, 4], [4]), ([6, 7, 0, 1, 2, 3, 4, 5, 6, 7], [6]), ([8, 0, 1, 2, 3, 4, 5, 6, 7, 8], [])])
def plan_List_Add.B6 : List Nat := [0, 1, 0, 4, 15, 0, 32, 31, 255, 511]
theorem plan_List_Add.tab6 : rtab .any (opsOf Try.f14 6) = plan_List_Add.T6 := by kernel_rfl
theorem plan_List_Add.bits6 : waitsOk plan_List_Add.T6.2 plan_List_Add.B6 = true := by kernel_rfl
set_option maxHeartbeats 40000000 in
set_option maxRecDepth 100000 in
theorem plan_List_Add.calls (k : Nat) (A0 : Option Addr) (c0 : Nat) (l0 : List (S23)) (a1_0 : Int) (a1_1 : Int) (a1_2 : Int) (a1_3 : Int) (a1_4 : Bool) (a1_5 : Bool) (r1 : List (S23)) (r2 : Int) (r3 : Int) (w : World) (hr0 : Kd.C k23 w A0 l0.length l0) (hc0 : l0.length ≤ c0) (h : plan_List_Add.f k l0 a1_0 a1_1 a1_2 a1_3 a1_4 a1_5 = some (r1, r2, r3)) :
  Calls Try.prog 14 #[.slice A0 l0.length c0, .agg #[.int .i64 a1_0, .int .u8 a1_1, .int .i64 a1_2, .int .i64 a1_3, .bool a1_4, .bool a1_5]] w fun e w' => ∃ v0_ : Value, e = .returned (.tuple #[v0_, .int .i64 r2, .int .i64 r3]) ∧ Kd.R k23 23 w' w.heap.size (fun _ => True) v0_ r1 ∧ Below w.heap.size w w' := by
 have hu23 := Try.underlying23
 have HR0 := Aside0.mk hr0
 have HC0 := Aside0.mk hc0
 clear hr0 hc0
 have HB := Aside0.mk (Below.refl w.heap.size w)
 have H : ((plan_Right.f k a1_0 a1_1 a1_2 a1_3 a1_4 a1_5).bind fun t392 => (if t392 = 0 then (if (l0.length : Int) ≥ 8 then (some (([] : List (S23)), 0, 3)) else (if ([] : List (S23)).length + l0.length < 3518437208883 then ((some (([] : List (S23)) ++ l0 : List (S23))).bind fun y393 => ((some (([(⟨a1_0, a1_1, a1_2, a1_3, a1_4, a1_5⟩ : S23)] : List (S23)) : List (S23))).bind fun y396 => (if y393.length + y396.length < 3518437208883 then (some ((y393 ++ y396), (l0.length : Int), 0)) else (none)))) else (none))) else (some (([] : List (S23)), 0, t392)))) = some (r1, r2, r3) := h
 clear h
 replace H := Option.bind_eq_some_iff.mp H
 obtain ⟨t392, A30, H⟩ := H
 replace H : (if t392 = 0 then (if (l0.length : Int) ≥ 8 then (some (([] : List (S23)), 0, 3)) else (if ([] : List (S23)).length + l0.length < 3518437208883 then ((some (([] : List (S23)) ++ l0 : List (S23))).bind fun y393 => ((some (([(⟨a1_0, a1_1, a1_2, a1_3, a1_4, a1_5⟩ : S23)] : List (S23)) : List (S23))).bind fun y396 => (if y393.length + y396.length < 3518437208883 then (some ((y393 ++ y396), (l0.length : Int), 0)) else (none)))) else (none))) else (some (([] : List (S23)), 0, t392))) = some (r1, r2, r3) := H
 have A3 := Aside0.mk A30
 clear A30
 by_cases c4 : t392 = 0
 ·rw [if_pos c4] at H
  have c4b0 : (t392 == 0) = true := beq_iff_eq.mpr c4
  have c4b1 : (t392 != 0) = false := bne_eq_false_iff_eq.mpr c4
  clear c4
  by_cases c5 : (l0.length : Int) ≥ 8
  ·rw [if_pos c5] at H
   have c5b0 : decide (8 ≤ (l0.length : Int)) = true := decide_eq_true c5
   have c5b1 : decide (8 ≤ l0.length) = true := decide_eq_true (by omega)
   clear c5
   simp only [Option.some.injEq, Prod.mk.injEq] at H
   obtain ⟨rfl, rfl, rfl⟩ := H
   go_enter Try.func14, Try.ntmps14
   go_wp2_with (first | ((with_reducible refine gate_dst (N := 3) rfl ?_); refine box_event ?hg (N := 3) ?hd (cs := #[.int .i64 a1_0, .int .u8 a1_1, .int .i64 a1_2, .int .i64 a1_3, .bool a1_4, .bool a1_5]) (t := 23) ?hr ?_; (case hd => rfl); (case hg => rfl); (case hr => first | (go_simp; done) | (go_simp; rfl)); intro gb391 hg w6 hbox hb; have n0_ := Aside0.mk (below_step (by repeat (first | (with_reducible first | exact HB.out | apply kL | apply kM | apply kE) | exact HB.out)) hb); have n1_ := Aside0.mk (hbox); have n2_ := Aside0.mk ((by rw [hg]; exact (below_size (by repeat (first | (with_reducible first | exact HB.out | apply kL | apply kM | apply kE) | exact HB.out))) : w.heap.size ≤ gb391)); have n3_ := Aside0.mk ((by rw [hg]; exact (below_size (by repeat (first | (with_reducible first | exact HB.out | apply kL | apply kM | apply kE) | exact HB.out))) : w.heap.size ≤ gb391)); clear HB; have HB := n0_; have BK391 := n1_; have GW391 := n2_; have GE391 := n3_; clear n0_ n1_ n2_ n3_; clear hb hbox hg; obtain ⟨hcz7_0, hcz7_1, hcz7_2, hcz7_3, hcz7_4, hcz7_5, hfz7_0, hfz7_1, hfz7_2, hfz7_3, hfz7_4, hfz7_5⟩ := bxc6 BK391.out) | ((with_reducible refine gate_callee (f := 12) rfl ?_); refine goesL_ (some 9) rfl rfl Try.func12 (by kernel_rfl) rfl #[.agg #[.int .i64 a1_0, .int .u8 a1_1, .int .i64 a1_2, .int .i64 a1_3, .bool a1_4, .bool a1_5]] rfl (by (try simp only [List.map_toArray, List.map_cons, List.map_nil]); first | done | rfl | (simp only [List.length_drop, List.length_take]; rfl)) ?_; (with_reducible refine (plan_Right.calls k a1_0 a1_1 a1_2 a1_3 a1_4 a1_5 t392 _ A3.out).mono ?_); rintro e w8 ⟨rfl, hb⟩; refine ⟨_, rfl, ?_⟩; have n0_ := Aside0.mk (blk_below (g := gb391) (o := .cells #[.int .i64 a1_0, .int .u8 a1_1, .int .i64 a1_2, .int .i64 a1_3, .bool a1_4, .bool a1_5] 23 (0, 0)) (by (with_reducible repeat (first | refine kN ?_ _ | refine kD ?_ | refine kA ?_ _)); exact BK391.out) hb); have n1_ := Aside0.mk (below_step (by repeat (first | (with_reducible first | exact HB.out | apply kL | apply kM | apply kE | refine kS ?_ GE391.out) | exact HB.out)) hb); clear BK391; clear HB; have BK391 := n0_; have HB := n1_; clear n0_ n1_; (try clear hb); (try clear hb2); (try clear hk); (try clear hi)))
   go_ret3
   exact ⟨_, by first | rfl | (simp [errW_none, errW_some] <;> rfl) | (simp [*, errW_none, errW_some] <;> rfl), by first | exact Kd.R_nil _ _ _ _ _ | exact Kd.N_nil _ _ _ _ _ | exact Kd.V_nil _ _ _ _ _ | exact Kd.Q_nil _ _ _ _ _ | exact Kd.S_nil _ _ _ _ _, by repeat (first | (with_reducible first | exact HB.out | apply kL | apply kM | apply kE | refine kS ?_ GE391.out) | exact HB.out)⟩
  ·rw [if_neg c5] at H
   have c5b0 : decide (8 ≤ (l0.length : Int)) = false := decide_eq_false c5
   have c5b1 : decide (8 ≤ l0.length) = false := decide_eq_false (by omega)
   clear c5
   by_cases c9 : ([] : List (S23)).length + l0.length < 3518437208883
   ·rw [if_pos c9] at H
    have LMc9 := Aside0.mk c9
    clear c9
    obtain ⟨y393, hy393⟩ : ∃ y_ : List (S23), y_ = (([] : List (S23)) ++ l0) := ⟨_, rfl⟩
    replace H : ((some (([(⟨a1_0, a1_1, a1_2, a1_3, a1_4, a1_5⟩ : S23)] : List (S23)) : List (S23))).bind fun y396 => (if y393.length + y396.length < 3518437208883 then (some ((y393 ++ y396), (l0.length : Int), 0)) else (none))) = some (r1, r2, r3) := by first | (rw [hy393]; with_reducible exact H) | (have H2_ := (Option.bind_some _ _).symm.trans H; rw [hy393]; with_reducible exact H2_) | (have H2_ := (Option.bind_some _ _).symm.trans H; with_reducible exact H2_) | with_reducible exact H | (rw [hy393]; exact H) | exact H
    have Ny393 := Aside0.mk hy393
    clear hy393
    obtain ⟨y396, hy396⟩ : ∃ y_ : List (S23), y_ = (([(⟨a1_0, a1_1, a1_2, a1_3, a1_4, a1_5⟩ : S23)] : List (S23))) := ⟨_, rfl⟩
    replace H : (if y393.length + y396.length < 3518437208883 then (some ((y393 ++ y396), (l0.length : Int), 0)) else (none)) = some (r1, r2, r3) := by first | (rw [hy396]; with_reducible exact H) | (have H2_ := (Option.bind_some _ _).symm.trans H; rw [hy396]; with_reducible exact H2_) | (have H2_ := (Option.bind_some _ _).symm.trans H; with_reducible exact H2_) | with_reducible exact H | (rw [hy396]; exact H) | exact H
    have Ny396 := Aside0.mk hy396
    clear hy396
    by_cases c10 : y393.length + y396.length < 3518437208883
    ·rw [if_pos c10] at H
     have LMc10 := Aside0.mk c10
     clear c10
     obtain ⟨y399, hy399⟩ : ∃ y_ : List (S23), y_ = (y393 ++ y396) := ⟨_, rfl⟩
     replace H : (some (y399, (l0.length : Int), 0)) = some (r1, r2, r3) := by first | (rw [hy399]; with_reducible exact H) | (have H2_ := (Option.bind_some _ _).symm.trans H; rw [hy399]; with_reducible exact H2_) | (have H2_ := (Option.bind_some _ _).symm.trans H; with_reducible exact H2_) | with_reducible exact H | (rw [hy399]; exact H) | exact H
     have Ny399 := Aside0.mk hy399
     clear hy399
     simp only [Option.some.injEq, Prod.mk.injEq] at H
     obtain ⟨rfl, rfl, rfl⟩ := H
     go_enter Try.func14, Try.ntmps14
     try go_wp2_with (first | ((with_reducible refine gate_dst (N := 3) rfl ?_); refine box_event ?hg (N := 3) ?hd (cs := #[.int .i64 a1_0, .int .u8 a1_1, .int .i64 a1_2, .int .i64 a1_3, .bool a1_4, .bool a1_5]) (t := 23) ?hr ?_; (case hd => rfl); (case hg => rfl); (case hr => first | (go_simp; done) | (go_simp; rfl)); intro gb391 hg w11 hbox hb; have n0_ := Aside0.mk (below_step (by repeat (first | (with_reducible first | exact HB.out | apply kL | apply kM | apply kE) | exact HB.out)) hb); have n1_ := Aside0.mk (hbox); have n2_ := Aside0.mk ((by rw [hg]; exact (below_size (by repeat (first | (with_reducible first | exact HB.out | apply kL | apply kM | apply kE) | exact HB.out))) : w.heap.size ≤ gb391)); have n3_ := Aside0.mk ((by rw [hg]; exact (below_size (by repeat (first | (with_reducible first | exact HB.out | apply kL | apply kM | apply kE) | exact HB.out))) : w.heap.size ≤ gb391)); clear HB; have HB := n0_; have BK391 := n1_; have GW391 := n2_; have GE391 := n3_; clear n0_ n1_ n2_ n3_; clear hb hbox hg; obtain ⟨hcz12_0, hcz12_1, hcz12_2, hcz12_3, hcz12_4, hcz12_5, hfz12_0, hfz12_1, hfz12_2, hfz12_3, hfz12_4, hfz12_5⟩ := bxc6 BK391.out) | ((with_reducible refine gate_callee (f := 12) rfl ?_); refine goesL_ (some 9) rfl rfl Try.func12 (by kernel_rfl) rfl #[.agg #[.int .i64 a1_0, .int .u8 a1_1, .int .i64 a1_2, .int .i64 a1_3, .bool a1_4, .bool a1_5]] rfl (by (try simp only [List.map_toArray, List.map_cons, List.map_nil]); first | done | rfl | (simp only [List.length_drop, List.length_take]; rfl)) ?_; (with_reducible refine (plan_Right.calls k a1_0 a1_1 a1_2 a1_3 a1_4 a1_5 t392 _ A3.out).mono ?_); rintro e w13 ⟨rfl, hb⟩; refine ⟨_, rfl, ?_⟩; have n0_ := Aside0.mk (blk_below (g := gb391) (o := .cells #[.int .i64 a1_0, .int .u8 a1_1, .int .i64 a1_2, .int .i64 a1_3, .bool a1_4, .bool a1_5] 23 (0, 0)) (by (with_reducible repeat (first | refine kN ?_ _ | refine kD ?_ | refine kA ?_ _)); exact BK391.out) hb); have n1_ := Aside0.mk (below_step (by repeat (first | (with_reducible first | exact HB.out | apply kL | apply kM | apply kE | refine kS ?_ GE391.out) | exact HB.out)) hb); clear BK391; clear HB; have BK391 := n0_; have HB := n1_; clear n0_ n1_; (try clear hb); (try clear hb2); (try clear hk); (try clear hi)))
     have n0_ := Aside0.mk (kD BK391.out)
     have n1_ := Aside0.mk (kE HB.out)
     clear BK391
     clear HB
     have BK391 := n0_
     have HB := n1_
     clear n0_ n1_
     refine start_ (n := 10) (S := fun w' => w'.cell? ⟨gb391, 0, none⟩ = some (.int .i64 a1_0) ∧ w'.cell? ⟨gb391, 1, none⟩ = some (.int .u8 a1_1) ∧ w'.cell? ⟨gb391, 2, none⟩ = some (.int .i64 a1_2) ∧ w'.cell? ⟨gb391, 3, none⟩ = some (.int .i64 a1_3) ∧ w'.cell? ⟨gb391, 4, none⟩ = some (.bool a1_4) ∧ w'.cell? ⟨gb391, 5, none⟩ = some (.bool a1_5)) (ds := []) #[false, false, false, false, false, false, false, false, false, false] (by kernel_rfl) rfl rfl ⟨(kC BK391.out 0).trans rfl, (kC BK391.out 1).trans rfl, (kC BK391.out 2).trans rfl, (kC BK391.out 3).trans rfl, (kC BK391.out 4).trans rfl, (kC BK391.out 5).trans rfl⟩ (fun hHeld => ?_); refine with_tabW plan_List_Add.tab6 plan_List_Add.bits6 (fun HT_ HW_ => ?_)
     generalize w13.drew = w14 at BK391 HB hHeld ⊢
     refine pure_ (i := 0) (N := some 16) (v := ?_) (a' := ?_) #[true, false, false, false, false, false, false, false, false, false] rfl rfl (any_of HT_.out (by kernel_rfl)) (fun _ _ _ h => h) (Or.inl ⟨by rfl, ?_⟩) ?_ ?_
     rotate_left
     ·intro w'
      go_simp
      with_reducible rfl
     rotate_left
     ·simp only [Act.put, List.setIfInBounds_toArray, List.set_cons_zero, List.set_cons_succ, i64_w, i32_w]
      rfl
     refine pure_ (i := 5) (N := some 21) (v := ?_) (a' := ?_) #[true, false, false, false, false, true, false, false, false, false] rfl rfl (any_of HT_.out (by kernel_rfl)) (fun _ _ _ h => h) (Or.inl ⟨by rfl, ?_⟩) ?_ ?_
     rotate_left
     ·intro w'
      go_simp
      with_reducible rfl
     rotate_left
     ·simp only [Act.put, List.setIfInBounds_toArray, List.set_cons_zero, List.set_cons_succ, i64_w, i32_w]
      rfl
     refine pure_ (i := 6) (N := some 22) (v := ?_) (a' := ?_) #[true, false, false, false, false, true, true, false, false, false] rfl rfl (any_of HT_.out (by kernel_rfl)) (fun _ _ _ h => h) (Or.inl ⟨by rfl, ?_⟩) ?_ ?_
     rotate_left
     ·intro w'
      go_simp
      with_reducible rfl
     rotate_left
     ·simp only [Act.put, List.setIfInBounds_toArray, List.set_cons_zero, List.set_cons_succ, i64_w, i32_w]
      rfl
     refine take_ (i := 2) (N := some 18) (v := ?_) (a' := ?_) #[true, false, true, false, false, true, true, false, false, false] rfl rfl (take_ofW HT_.out HW_.out (by kernel_rfl)) (fun _ _ _ h => h) (Or.inl ⟨by rfl, ?_⟩) hHeld ?_ ?_
     rotate_left
     ·rintro w' ⟨s0, s1, s2, s3, s4, s5⟩
      go_simp
      with_reducible rfl
     rotate_left
     ·simp only [Act.put, List.setIfInBounds_toArray, List.set_cons_zero, List.set_cons_succ, i64_w, i32_w]
      rfl
     refine join_ (σ := Value × Value) 4 #[true, true, true, true, false, true, true, false, false, false] (fun s_ => [(17, s_.1), (19, s_.2)]) (fun s_ w' => (w'.cell? ⟨gb391, 0, none⟩ = some (.int .i64 a1_0) ∧ w'.cell? ⟨gb391, 1, none⟩ = some (.int .u8 a1_1) ∧ w'.cell? ⟨gb391, 2, none⟩ = some (.int .i64 a1_2) ∧ w'.cell? ⟨gb391, 3, none⟩ = some (.int .i64 a1_3) ∧ w'.cell? ⟨gb391, 4, none⟩ = some (.bool a1_4) ∧ w'.cell? ⟨gb391, 5, none⟩ = some (.bool a1_5)) ∧ (Kd.R k23 23 w' w.heap.size (fun k_ => some k_ ≠ (s_.2 : Value).ownBlock ∧ k_ ≠ gb391) s_.1 y393) ∧ (Kd.R k23 23 w' w.heap.size (fun k_ => some k_ ≠ (s_.1 : Value).ownBlock ∧ k_ ≠ gb391) s_.2 y396) ∧ (w'.heap[gb391]? = some (.cells #[.int .i64 a1_0, .int .u8 a1_1, .int .i64 a1_2, .int .i64 a1_3, .bool a1_4, .bool a1_5] 23 (0, 0))) ∧ (Below w.heap.size w w')) ?_ ?_
     rotate_left
     ·intro hCont
      refine two_ (i := 1) (j := 3) (Ni := some 17) (Nj := some 19) #[true, true, true, false, false, true, true, false, false, false] #[true, false, true, true, false, true, true, false, false, false] rfl rfl rfl rfl (two_of HT_.out (by kernel_rfl)) (by decide) (by decide) (fun K hK => ?_) (fun K hK => ?_)
      ·skip
       refine Kd.R_append_rows_step k23 (w0 := w) w.heap.size (by rfl) (.const (.slice none 0 0)) (.tmp 16) 37 23 (.agg #[(.int .i64 0), (.int .u8 0), (.int .i64 0), (.int .i64 0), (.bool false), (.bool false)]) 40 rfl Try.underlying37 info23 rfl (by decide) (by omega) (.slice none 0 0) ([] : List (S23)) l0 _ _ _ (fun k_ => k_ ≠ gb391) (fun _ => False) rfl rfl ?aO ?aR (fun _ _ h => h) (fun _ h => h.elim) ?aF ?aB ?aS ?aL ?_
       (case aR => repeat (first | exact (Kd.C_below HR0.out HB.out) | exact HR0.out | (with_reducible refine Kd.C_alloc ?_ _) | (with_reducible refine Kd.C_drewN ?_ _) | (with_reducible refine Kd.C_drew ?_)))
       (case aB => exact (by repeat (first | (with_reducible first | exact HB.out | apply kL | apply kM | apply kE | refine kS ?_ GE391.out) | exact HB.out)))
       (case aF => exact (fun k_ hk => Kd.freshB (g := gb391) (o := .cells #[.int .i64 a1_0, .int .u8 a1_1, .int .i64 a1_2, .int .i64 a1_3, .bool a1_4, .bool a1_5] 23 (0, 0)) (by (with_reducible repeat (first | refine kN ?_ _ | refine kD ?_ | refine kA ?_ _)); exact BK391.out) k_ hk))
       (case aO => exact ((Kd.R_nil _ _ _ _ (fun k_ => k_ ≠ gb391))))
       (case aS => exact (below_size (by repeat (first | (with_reducible first | exact HB.out | apply kL | apply kM | apply kE | refine kS ?_ GE391.out) | exact HB.out))))
       (case aL => have := LMc9.out; omega)
       intro v394 w15 ho hb hg hat
       rw [← Ny393.out] at ho
       have n0_ := Aside0.mk (blk_grown (g := gb391) (o := .cells #[.int .i64 a1_0, .int .u8 a1_1, .int .i64 a1_2, .int .i64 a1_3, .bool a1_4, .bool a1_5] 23 (0, 0)) (by (with_reducible repeat (first | refine kN ?_ _ | refine kD ?_ | refine kA ?_ _)); exact BK391.out) hg (by simp [Value.ownBlock]))
       have n1_ := Aside0.mk (hb)
       have n2_ := Aside0.mk (ho)
       clear BK391
       clear HB
       have BK391 := n0_
       have HB := n1_
       have HO395 := n2_
       clear n0_ n1_ n2_
       clear ho hb hg hat
       refine hK.out _ _ ⟨(kC BK391.out 0).trans rfl, (kC BK391.out 1).trans rfl, (kC BK391.out 2).trans rfl, (kC BK391.out 3).trans rfl, (kC BK391.out 4).trans rfl, (kC BK391.out 5).trans rfl⟩ (fun hHeld => ?_)
       clear hK K
       refine norm_ (a' := ?_) ?_ ?_
       rotate_left
       ·show Act.put _ (some 17) _ = _
        simp only [Act.put, List.setIfInBounds_toArray, List.set_cons_zero, List.set_cons_succ, i64_w, i32_w]
        rfl
       refine one_ (i := 3) (N := some 19) #[true, true, true, true, false, true, true, false, false, false] rfl rfl (one_of HT_.out (by kernel_rfl)) (by decide) (fun K hK => ?_)
       refine Kd.R_lit_step k23 _ 23 ?hg (N := 19) ?hd (xs := ([(⟨a1_0, a1_1, a1_2, a1_3, a1_4, a1_5⟩ : S23)] : List (S23))) (inner := [.int .i64 a1_0, .int .u8 a1_1, .int .i64 a1_2, .int .i64 a1_3, .bool a1_4, .bool a1_5]) (ok := fun _ => True) (okp := fun _ => True) ?hr ?hp (fun _ hk => hk) trivial (Below.refl _ _) (Nat.le_refl _) (by simp) ?_; (case hd => rfl); (case hg => rfl); (case hr => first | (go_simp; done) | (go_simp; rfl)); (case hp => exact (Reps.c6 (show Kd.M k23 _ _ _ (⟨a1_0, a1_1, a1_2, a1_3, a1_4, a1_5⟩ : S23) [.int .i64 a1_0, .int .u8 a1_1, .int .i64 a1_2, .int .i64 a1_3, .bool a1_4, .bool a1_5] from (k23_mkM _ _ _ (⟨a1_0, a1_1, a1_2, a1_3, a1_4, a1_5⟩ : S23) )) (Reps.none _ _)))
       intro v397 w16 ho17 hb hg_ hnew_
       clear hg_ hnew_
       (first | rw [← Ny396.out] at ho17 | (simp only [Int.reduceToNat] at ho17; rw [← Ny396.out] at ho17))
       have n0_ := Aside0.mk (Kd.R_elder' (by (with_reducible repeat (first | apply Kd.R_alloc | apply Kd.R_drewN | apply Kd.R_drew)); exact HO395.out) (Kd.R_base ho17) hb)
       have n1_ := Aside0.mk (Kd.R_lower (Kd.R_newB (Kd.R_new' ho17 (Kd.R_lt (by (with_reducible repeat (first | apply Kd.R_alloc | apply Kd.R_drewN | apply Kd.R_drew)); exact HO395.out))) (g := gb391) (o := .cells #[.int .i64 a1_0, .int .u8 a1_1, .int .i64 a1_2, .int .i64 a1_3, .bool a1_4, .bool a1_5] 23 (0, 0)) (by (with_reducible repeat (first | refine kN ?_ _ | refine kD ?_ | refine kA ?_ _)); exact BK391.out)) (below_size (by repeat (first | (with_reducible first | exact HB.out | apply kL | apply kM | apply kE | refine kS ?_ GE391.out) | exact HB.out))))
       have n2_ := Aside0.mk (blk_below (g := gb391) (o := .cells #[.int .i64 a1_0, .int .u8 a1_1, .int .i64 a1_2, .int .i64 a1_3, .bool a1_4, .bool a1_5] 23 (0, 0)) (by (with_reducible repeat (first | refine kN ?_ _ | refine kD ?_ | refine kA ?_ _)); exact BK391.out) hb)
       have n3_ := Aside0.mk (below_step (by repeat (first | (with_reducible first | exact HB.out | apply kL | apply kM | apply kE | refine kS ?_ GE391.out) | exact HB.out)) hb)
       clear HO395
       clear BK391
       clear HB
       have HO395 := n0_
       have HO398 := n1_
       have BK391 := n2_
       have HB := n3_
       clear n0_ n1_ n2_ n3_
       clear hb ho17
       refine hK.out _ _ ⟨(kC BK391.out 0).trans rfl, (kC BK391.out 1).trans rfl, (kC BK391.out 2).trans rfl, (kC BK391.out 3).trans rfl, (kC BK391.out 4).trans rfl, (kC BK391.out 5).trans rfl⟩ (fun hHeld => ?_)
       clear hK K
       refine norm_ (a' := ?_) ?_ ?_
       rotate_left
       ·show Act.put _ (some 19) _ = _
        simp only [Act.put, List.setIfInBounds_toArray, List.set_cons_zero, List.set_cons_succ, i64_w, i32_w]
        rfl
       exact norm_ (by simp only [putAll, Act.put, List.setIfInBounds_toArray, List.set_cons_zero, List.set_cons_succ]) (hCont (v394, v397) _ ⟨hHeld, (by (with_reducible repeat (first | apply Kd.R_alloc | apply Kd.R_drewN | apply Kd.R_drew)); exact Kd.R_mono HO395.out (fun _ hk => ⟨hk.2, hk.1⟩)), (by (with_reducible repeat (first | apply Kd.R_alloc | apply Kd.R_drewN | apply Kd.R_drew)); exact Kd.R_mono HO398.out (fun _ hk => ⟨hk.1.2, hk.2⟩)), (by (with_reducible repeat (first | refine kN ?_ _ | refine kD ?_ | refine kA ?_ _)); exact BK391.out), (by repeat (first | (with_reducible first | exact HB.out | apply kL | apply kM | apply kE | refine kS ?_ GE391.out) | exact HB.out))⟩)
      ·skip
       refine Kd.R_lit_step k23 _ 23 ?hg (N := 19) ?hd (xs := ([(⟨a1_0, a1_1, a1_2, a1_3, a1_4, a1_5⟩ : S23)] : List (S23))) (inner := [.int .i64 a1_0, .int .u8 a1_1, .int .i64 a1_2, .int .i64 a1_3, .bool a1_4, .bool a1_5]) (ok := fun _ => True) (okp := fun _ => True) ?hr ?hp (fun _ hk => hk) trivial (Below.refl _ _) (Nat.le_refl _) (by simp) ?_; (case hd => rfl); (case hg => rfl); (case hr => first | (go_simp; done) | (go_simp; rfl)); (case hp => exact (Reps.c6 (show Kd.M k23 _ _ _ (⟨a1_0, a1_1, a1_2, a1_3, a1_4, a1_5⟩ : S23) [.int .i64 a1_0, .int .u8 a1_1, .int .i64 a1_2, .int .i64 a1_3, .bool a1_4, .bool a1_5] from (k23_mkM _ _ _ (⟨a1_0, a1_1, a1_2, a1_3, a1_4, a1_5⟩ : S23) )) (Reps.none _ _)))
       intro v397 w15 ho16 hb hg_ hnew_
       clear hg_ hnew_
       (first | rw [← Ny396.out] at ho16 | (simp only [Int.reduceToNat] at ho16; rw [← Ny396.out] at ho16))
       have n0_ := Aside0.mk (Kd.R_lower (Kd.R_newB ho16 (g := gb391) (o := .cells #[.int .i64 a1_0, .int .u8 a1_1, .int .i64 a1_2, .int .i64 a1_3, .bool a1_4, .bool a1_5] 23 (0, 0)) (by (with_reducible repeat (first | refine kN ?_ _ | refine kD ?_ | refine kA ?_ _)); exact BK391.out)) (below_size (by repeat (first | (with_reducible first | exact HB.out | apply kL | apply kM | apply kE | refine kS ?_ GE391.out) | exact HB.out))))
       have n1_ := Aside0.mk (blk_below (g := gb391) (o := .cells #[.int .i64 a1_0, .int .u8 a1_1, .int .i64 a1_2, .int .i64 a1_3, .bool a1_4, .bool a1_5] 23 (0, 0)) (by (with_reducible repeat (first | refine kN ?_ _ | refine kD ?_ | refine kA ?_ _)); exact BK391.out) hb)
       have n2_ := Aside0.mk (below_step (by repeat (first | (with_reducible first | exact HB.out | apply kL | apply kM | apply kE | refine kS ?_ GE391.out) | exact HB.out)) hb)
       clear BK391
       clear HB
       have HO398 := n0_
       have BK391 := n1_
       have HB := n2_
       clear n0_ n1_ n2_
       clear hb ho16
       refine hK.out _ _ ⟨(kC BK391.out 0).trans rfl, (kC BK391.out 1).trans rfl, (kC BK391.out 2).trans rfl, (kC BK391.out 3).trans rfl, (kC BK391.out 4).trans rfl, (kC BK391.out 5).trans rfl⟩ (fun hHeld => ?_)
       clear hK K
       refine norm_ (a' := ?_) ?_ ?_
       rotate_left
       ·show Act.put _ (some 19) _ = _
        simp only [Act.put, List.setIfInBounds_toArray, List.set_cons_zero, List.set_cons_succ, i64_w, i32_w]
        rfl
       refine one_ (i := 1) (N := some 17) #[true, true, true, true, false, true, true, false, false, false] rfl rfl (one_of HT_.out (by kernel_rfl)) (by decide) (fun K hK => ?_)
       refine Kd.R_append_rows_step k23 (w0 := w) w.heap.size (by rfl) (.const (.slice none 0 0)) (.tmp 16) 37 23 (.agg #[(.int .i64 0), (.int .u8 0), (.int .i64 0), (.int .i64 0), (.bool false), (.bool false)]) 40 rfl Try.underlying37 info23 rfl (by decide) (by omega) (.slice none 0 0) ([] : List (S23)) l0 _ _ _ (fun k_ => some k_ ≠ (v397 : Value).ownBlock ∧ k_ ≠ gb391) (fun _ => False) rfl rfl ?aO ?aR (fun _ _ h => h) (fun _ h => h.elim) ?aF ?aB ?aS ?aL ?_
       (case aR => repeat (first | exact (Kd.C_below HR0.out HB.out) | exact HR0.out | (with_reducible refine Kd.C_alloc ?_ _) | (with_reducible refine Kd.C_drewN ?_ _) | (with_reducible refine Kd.C_drew ?_)))
       (case aB => exact (by repeat (first | (with_reducible first | exact HB.out | apply kL | apply kM | apply kE | refine kS ?_ GE391.out) | exact HB.out)))
       (case aF => exact (fun k_ hk => ⟨Kd.fresh' (Kd.R_lt (by (with_reducible repeat (first | apply Kd.R_alloc | apply Kd.R_drewN | apply Kd.R_drew)); exact HO398.out)) k_ hk, Kd.freshB (g := gb391) (o := .cells #[.int .i64 a1_0, .int .u8 a1_1, .int .i64 a1_2, .int .i64 a1_3, .bool a1_4, .bool a1_5] 23 (0, 0)) (by (with_reducible repeat (first | refine kN ?_ _ | refine kD ?_ | refine kA ?_ _)); exact BK391.out) k_ hk⟩))
       (case aO => exact ((Kd.R_nil _ _ _ _ (fun k_ => some k_ ≠ (v397 : Value).ownBlock ∧ k_ ≠ gb391))))
       (case aS => exact (below_size (by repeat (first | (with_reducible first | exact HB.out | apply kL | apply kM | apply kE | refine kS ?_ GE391.out) | exact HB.out))))
       (case aL => have := LMc9.out; omega)
       intro v394 w17 ho hb hg hat
       rw [← Ny393.out] at ho
       have n0_ := Aside0.mk (blk_grown (g := gb391) (o := .cells #[.int .i64 a1_0, .int .u8 a1_1, .int .i64 a1_2, .int .i64 a1_3, .bool a1_4, .bool a1_5] 23 (0, 0)) (by (with_reducible repeat (first | refine kN ?_ _ | refine kD ?_ | refine kA ?_ _)); exact BK391.out) hg (by simp [Value.ownBlock]))
       have n1_ := Aside0.mk (Kd.R_after (Kd.R_apart_nil (by (with_reducible repeat (first | apply Kd.R_alloc | apply Kd.R_drewN | apply Kd.R_drew)); exact HO398.out)) hg hat)
       have n2_ := Aside0.mk (hb)
       have n3_ := Aside0.mk (ho)
       clear BK391
       clear HO398
       clear HB
       have BK391 := n0_
       have HO398 := n1_
       have HB := n2_
       have HO395 := n3_
       clear n0_ n1_ n2_ n3_
       clear ho hb hg hat
       refine hK.out _ _ ⟨(kC BK391.out 0).trans rfl, (kC BK391.out 1).trans rfl, (kC BK391.out 2).trans rfl, (kC BK391.out 3).trans rfl, (kC BK391.out 4).trans rfl, (kC BK391.out 5).trans rfl⟩ (fun hHeld => ?_)
       clear hK K
       refine norm_ (a' := ?_) ?_ ?_
       rotate_left
       ·show Act.put _ (some 17) _ = _
        simp only [Act.put, List.setIfInBounds_toArray, List.set_cons_zero, List.set_cons_succ, i64_w, i32_w]
        rfl
       exact norm_ (by simp only [putAll, Act.put, List.setIfInBounds_toArray, List.set_cons_zero, List.set_cons_succ]) (hCont (v394, v397) _ ⟨hHeld, (by (with_reducible repeat (first | apply Kd.R_alloc | apply Kd.R_drewN | apply Kd.R_drew)); exact HO395.out), (by (with_reducible repeat (first | apply Kd.R_alloc | apply Kd.R_drewN | apply Kd.R_drew)); exact Kd.R_mono HO398.out (fun _ hk => ⟨hk.2, hk.1.2⟩)), (by (with_reducible repeat (first | refine kN ?_ _ | refine kD ?_ | refine kA ?_ _)); exact BK391.out), (by repeat (first | (with_reducible first | exact HB.out | apply kL | apply kM | apply kE | refine kS ?_ GE391.out) | exact HB.out))⟩)
     rintro ⟨v394, v397⟩ w18 ⟨hS_, h0_, h1_, h2_, h3_⟩
     have n0_ : Aside0 (Kd.R k23 23 w18 w.heap.size (fun k_ => some k_ ≠ (v397 : Value).ownBlock ∧ k_ ≠ gb391) v394 y393) := ⟨h0_⟩
     have n1_ : Aside0 (Kd.R k23 23 w18 w.heap.size (fun k_ => some k_ ≠ (v394 : Value).ownBlock ∧ k_ ≠ gb391) v397 y396) := ⟨h1_⟩
     have n2_ : Aside0 (w18.heap[gb391]? = some (.cells #[.int .i64 a1_0, .int .u8 a1_1, .int .i64 a1_2, .int .i64 a1_3, .bool a1_4, .bool a1_5] 23 (0, 0))) := ⟨h2_⟩
     have n3_ : Aside0 (Below w.heap.size w w18) := ⟨h3_⟩
     clear BK391
     clear HB
     clear h0_ h1_ h2_ h3_
     have HO395 := n0_
     have HO398 := n1_
     have BK391 := n2_
     have HB := n3_
     clear n0_ n1_ n2_ n3_
     have hHeld : w18.cell? ⟨gb391, 0, none⟩ = some (.int .i64 a1_0) ∧ w18.cell? ⟨gb391, 1, none⟩ = some (.int .u8 a1_1) ∧ w18.cell? ⟨gb391, 2, none⟩ = some (.int .i64 a1_2) ∧ w18.cell? ⟨gb391, 3, none⟩ = some (.int .i64 a1_3) ∧ w18.cell? ⟨gb391, 4, none⟩ = some (.bool a1_4) ∧ w18.cell? ⟨gb391, 5, none⟩ = some (.bool a1_5) := hS_
     obtain ⟨Ao20, co20, eo20⟩ := Kd.R_slice HO398.out
     (first | subst eo20 | (injection eo20 with f1_ f2_ f3_; have f4_ := f1_.symm; have f5_ := f3_.symm; clear f1_ f2_ f3_; subst f4_; subst f5_))
     refine norm_ (a' := ?_) ?_ ?_
     rotate_left
     ·simp only [putAll, Act.put, List.setIfInBounds_toArray, List.set_cons_zero, List.set_cons_succ]
      rfl
     refine one_ (i := 4) (N := some 20) #[true, true, true, true, true, true, true, false, false, false] rfl rfl (one_of HT_.out (by kernel_rfl)) (by decide) (fun K hK => ?_)
     refine Kd.R_append_rows_step k23 (w0 := w) w.heap.size (by rfl) (.tmp 17) (.tmp 19) 37 23 (.agg #[(.int .i64 0), (.int .u8 0), (.int .i64 0), (.int .i64 0), (.bool false), (.bool false)]) 40 rfl Try.underlying37 info23 rfl (by decide) (by omega) v394 y393 y396 _ _ _ (fun k_ => some k_ ≠ (.slice Ao20 y396.length co20 : Value).ownBlock ∧ k_ ≠ gb391) (fun _ => False) rfl rfl ?aO ?aR (fun _ _ h => h) (fun _ h => h.elim) ?aF ?aB ?aS ?aL ?_
     (case aR => repeat (first | exact (Kd.R_reads' HO398.out).2.2 | (with_reducible refine Kd.C_alloc ?_ _) | (with_reducible refine Kd.C_drewN ?_ _) | (with_reducible refine Kd.C_drew ?_)))
     (case aB => exact (by repeat (first | (with_reducible first | exact HB.out | apply kL | apply kM | apply kE | refine kS ?_ GE391.out) | exact HB.out)))
     (case aF => exact (fun k_ hk => ⟨Kd.fresh' (Kd.R_lt (by (with_reducible repeat (first | apply Kd.R_alloc | apply Kd.R_drewN | apply Kd.R_drew)); exact HO398.out)) k_ hk, Kd.freshB (g := gb391) (o := .cells #[.int .i64 a1_0, .int .u8 a1_1, .int .i64 a1_2, .int .i64 a1_3, .bool a1_4, .bool a1_5] 23 (0, 0)) (by (with_reducible repeat (first | refine kN ?_ _ | refine kD ?_ | refine kA ?_ _)); exact BK391.out) k_ hk⟩))
     (case aO => exact (by (with_reducible repeat (first | apply Kd.R_alloc | apply Kd.R_drewN | apply Kd.R_drew)); exact HO395.out))
     (case aS => exact (below_size (by repeat (first | (with_reducible first | exact HB.out | apply kL | apply kM | apply kE | refine kS ?_ GE391.out) | exact HB.out))))
     (case aL => have := LMc10.out; omega)
     intro v400 w19 ho hb hg hat
     rw [← Ny399.out] at ho
     have n0_ := Aside0.mk (blk_grown (g := gb391) (o := .cells #[.int .i64 a1_0, .int .u8 a1_1, .int .i64 a1_2, .int .i64 a1_3, .bool a1_4, .bool a1_5] 23 (0, 0)) (by (with_reducible repeat (first | refine kN ?_ _ | refine kD ?_ | refine kA ?_ _)); exact BK391.out) hg (Kd.R_away HO395.out (fun _ hk => hk.2)))
     have n1_ := Aside0.mk (Kd.R_after (ok := (fun k_ => k_ ≠ gb391)) (by (with_reducible repeat (first | apply Kd.R_alloc | apply Kd.R_drewN | apply Kd.R_drew)); exact Kd.R_mono HO398.out (fun _ hk => ⟨hk.2, hk.1⟩)) hg hat)
     have n2_ := Aside0.mk (hb)
     have n3_ := Aside0.mk (ho)
     clear BK391
     clear HO398
     clear HB
     clear HO395
     have BK391 := n0_
     have HO398 := n1_
     have HB := n2_
     have HO401 := n3_
     clear n0_ n1_ n2_ n3_
     clear ho hb hg hat
     refine hK.out _ _ ⟨(kC BK391.out 0).trans rfl, (kC BK391.out 1).trans rfl, (kC BK391.out 2).trans rfl, (kC BK391.out 3).trans rfl, (kC BK391.out 4).trans rfl, (kC BK391.out 5).trans rfl⟩ (fun hHeld => ?_)
     clear hK K
     refine norm_ (a' := ?_) ?_ ?_
     rotate_left
     ·show Act.put _ (some 20) _ = _
      simp only [Act.put, List.setIfInBounds_toArray, List.set_cons_zero, List.set_cons_succ, i64_w, i32_w]
      rfl
     refine pure_ (i := 7) (N := some 4) (v := ?_) (a' := ?_) #[true, true, true, true, true, true, true, true, false, false] rfl rfl (any_of HT_.out (by kernel_rfl)) (fun _ _ _ h => h) (Or.inl ⟨by rfl, ?_⟩) ?_ ?_
     rotate_left
     ·intro w'
      go_simp
      with_reducible rfl
     rotate_left
     ·simp only [Act.put, List.setIfInBounds_toArray, List.set_cons_zero, List.set_cons_succ, i64_w, i32_w]
      rfl
     refine pure_ (i := 8) (N := some 5) (v := ?_) (a' := ?_) #[true, true, true, true, true, true, true, true, true, false] rfl rfl (any_of HT_.out (by kernel_rfl)) (fun _ _ _ h => h) (Or.inl ⟨by rfl, ?_⟩) ?_ ?_
     rotate_left
     ·intro w'
      go_simp
      with_reducible rfl
     rotate_left
     ·simp only [Act.put, List.setIfInBounds_toArray, List.set_cons_zero, List.set_cons_succ, i64_w, i32_w]
      rfl
     refine pure_ (i := 9) (N := some 6) (v := ?_) (a' := ?_) #[true, true, true, true, true, true, true, true, true, true] rfl rfl (any_of HT_.out (by kernel_rfl)) (fun _ _ _ h => h) (Or.inl ⟨by rfl, ?_⟩) ?_ ?_
     rotate_left
     ·intro w'
      go_simp
      with_reducible rfl
     rotate_left
     ·simp only [Act.put, List.setIfInBounds_toArray, List.set_cons_zero, List.set_cons_succ, i64_w, i32_w]
      rfl
     refine done_ (done_of HT_.out (by kernel_rfl)) ?_
     try go_wp2
     go_ret3
     exact ⟨_, by first | rfl | (simp [errW_none, errW_some] <;> rfl) | (simp [*, errW_none, errW_some] <;> rfl), by (with_reducible repeat (first | apply Kd.R_alloc | apply Kd.R_drewN | apply Kd.R_drew)); exact Kd.R_mono HO401.out (fun _ hk => trivial), by repeat (first | (with_reducible first | exact HB.out | apply kL | apply kM | apply kE | refine kS ?_ GE391.out) | exact HB.out)⟩
    ·rw [if_neg c10] at H
     exact absurd H (by simp)
   ·rw [if_neg c9] at H
    exact absurd H (by simp)
 ·rw [if_neg c4] at H
  have c4b0 : (t392 == 0) = false := beq_eq_false_iff_ne.mpr c4
  have c4b1 : (t392 != 0) = true := bne_iff_ne.mpr c4
  simp only [Option.some.injEq, Prod.mk.injEq] at H
  obtain ⟨rfl, rfl, rfl⟩ := H
  go_enter Try.func14, Try.ntmps14
  go_wp2_with (first | ((with_reducible refine gate_dst (N := 3) rfl ?_); refine box_event ?hg (N := 3) ?hd (cs := #[.int .i64 a1_0, .int .u8 a1_1, .int .i64 a1_2, .int .i64 a1_3, .bool a1_4, .bool a1_5]) (t := 23) ?hr ?_; (case hd => rfl); (case hg => rfl); (case hr => first | (go_simp; done) | (go_simp; rfl)); intro gb391 hg w21 hbox hb; have n0_ := Aside0.mk (below_step (by repeat (first | (with_reducible first | exact HB.out | apply kL | apply kM | apply kE) | exact HB.out)) hb); have n1_ := Aside0.mk (hbox); have n2_ := Aside0.mk ((by rw [hg]; exact (below_size (by repeat (first | (with_reducible first | exact HB.out | apply kL | apply kM | apply kE) | exact HB.out))) : w.heap.size ≤ gb391)); have n3_ := Aside0.mk ((by rw [hg]; exact (below_size (by repeat (first | (with_reducible first | exact HB.out | apply kL | apply kM | apply kE) | exact HB.out))) : w.heap.size ≤ gb391)); clear HB; have HB := n0_; have BK391 := n1_; have GW391 := n2_; have GE391 := n3_; clear n0_ n1_ n2_ n3_; clear hb hbox hg; obtain ⟨hcz22_0, hcz22_1, hcz22_2, hcz22_3, hcz22_4, hcz22_5, hfz22_0, hfz22_1, hfz22_2, hfz22_3, hfz22_4, hfz22_5⟩ := bxc6 BK391.out) | ((with_reducible refine gate_callee (f := 12) rfl ?_); refine goesL_ (some 9) rfl rfl Try.func12 (by kernel_rfl) rfl #[.agg #[.int .i64 a1_0, .int .u8 a1_1, .int .i64 a1_2, .int .i64 a1_3, .bool a1_4, .bool a1_5]] rfl (by (try simp only [List.map_toArray, List.map_cons, List.map_nil]); first | done | rfl | (simp only [List.length_drop, List.length_take]; rfl)) ?_; (with_reducible refine (plan_Right.calls k a1_0 a1_1 a1_2 a1_3 a1_4 a1_5 t392 _ A3.out).mono ?_); rintro e w23 ⟨rfl, hb⟩; refine ⟨_, rfl, ?_⟩; have n0_ := Aside0.mk (blk_below (g := gb391) (o := .cells #[.int .i64 a1_0, .int .u8 a1_1, .int .i64 a1_2, .int .i64 a1_3, .bool a1_4, .bool a1_5] 23 (0, 0)) (by (with_reducible repeat (first | refine kN ?_ _ | refine kD ?_ | refine kA ?_ _)); exact BK391.out) hb); have n1_ := Aside0.mk (below_step (by repeat (first | (with_reducible first | exact HB.out | apply kL | apply kM | apply kE | refine kS ?_ GE391.out) | exact HB.out)) hb); clear BK391; clear HB; have BK391 := n0_; have HB := n1_; clear n0_ n1_; (try clear hb); (try clear hb2); (try clear hk); (try clear hi)))
  go_ret3
  exact ⟨_, by first | rfl | (simp [errW_none, errW_some] <;> rfl) | (simp [*, errW_none, errW_some] <;> rfl), by first | exact Kd.R_nil _ _ _ _ _ | exact Kd.N_nil _ _ _ _ _ | exact Kd.V_nil _ _ _ _ _ | exact Kd.Q_nil _ _ _ _ _ | exact Kd.S_nil _ _ _ _ _, by repeat (first | (with_reducible first | exact HB.out | apply kL | apply kM | apply kE | refine kS ?_ GE391.out) | exact HB.out)⟩

end Go.Proofs.Ytbjelaocihjhgaa.PA
