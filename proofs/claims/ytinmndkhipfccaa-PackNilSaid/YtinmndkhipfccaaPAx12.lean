-- printed by this workplace: wip/patchprint.py over the kit's print
import Derived.Test.YtinmndkhipfccaaPAx0
import Derived.Test.YtinmndkhipfccaaPAx11
namespace Go.Proofs.Ytinmndkhipfccaa.PA
open Go.RowKit Go.Proofs.YtinmndkhipfccaaW.PrintWords Go.Proofs.YtinmndkhipfccaaW.PrintLast Go.Proofs.YtinmndkhipfccaaW.PrintMore
attribute [local go_sem] max2_int min2_int max_two min_two max_three min_three max_four min_four   -- for this text's walks alone
set_option linter.unusedVariables false
set_option linter.unusedSimpArgs false

/-! ### pack_Box_GetFlag: function 22 -/
def pack_Box_GetFlag.f (k : Nat) (l0_0 : List Int) (a0_1 : Int) : Option (Bool × List Int × Int) := (pack_Box_Get.f k l0_0 a0_1 0 1).bind fun bt215 => (some ((bt215.1 == 1), bt215.2.1, bt215.2.2))
theorem pack_Box_GetFlag.mono : ∀ a0 a1 k, LeO (pack_Box_GetFlag.f k a0 a1) (pack_Box_GetFlag.f (k + 1) a0 a1) := by
 intro a0 a1 k
 unfold pack_Box_GetFlag.f
 repeat' first
   | (with_reducible exact pack_Box_Get.mono _ _ _ _ _)
   | (with_reducible exact LeO.refl _)
   | (with_reducible exact LeO.none _)
   | (with_reducible refine LeO.ite ?_ ?_)
   | (with_reducible refine LeO.bind ?_ (fun _ => ?_))
   | exact pack_Box_Get.mono _ _ _ _ _
   | exact LeO.none _
   | refine LeO.ite ?_ ?_
   | refine LeO.bind ?_ (fun _ => ?_)
set_option maxHeartbeats 40000000 in
set_option maxRecDepth 100000 in
theorem pack_Box_GetFlag.calls (k : Nat) (gx0 : Nat) (P0_0_ : Nat → Prop) (u9000_ : Value) (l0_0 : List Int) (a0_1 : Int) (r1 : Bool) (r2 : List Int) (r3 : Int) (w0 w : World) (hB : Below w0.heap.size w0 w) (hbx0 : w.heap[gx0]? = some (.cells #[u9000_, .int .i64 a0_1] 51 (0, 0))) (hge0 : w0.heap.size ≤ gx0) (ho0_0 : Kd.Q (Kd.int .u8) 5 w w0.heap.size P0_0_ u9000_ l0_0) (h : pack_Box_GetFlag.f k l0_0 a0_1 = some (r1, r2, r3)) :
  Calls Try.prog 22 #[.pointer (some ⟨gx0, 0, none⟩)] w fun e w' => ∃ v1_ : Value, e = .returned (.bool r1) ∧ Kd.Q (Kd.int .u8) 5 w' w0.heap.size (fun k_ => (P0_0_ k_ ∨ w.heap.size ≤ k_)) v1_ r2 ∧ w'.heap[gx0]? = some (.cells #[v1_, .int .i64 r3] 51 (0, 0)) ∧ Below w0.heap.size w0 w' ∧ Kept w w' (fun k_ => (P0_0_ k_) ∨ k_ = gx0) := by
 have BK0 := Aside0.mk hbx0
 have GE0 := Aside0.mk hge0
 clear hbx0 hge0
 have HO0_0 := Aside0.mk (show Kd.Q (Kd.int .u8) 5 w w0.heap.size (fun k_ => (P0_0_ k_ ∨ w.heap.size ≤ k_)) u9000_ l0_0 from Kd.Q_mono ho0_0 (fun k_ hk => (.inl hk)))
 have HK := Aside0.mk (Kept.refl w (fun k_ => (P0_0_ k_) ∨ k_ = gx0))
 have HW0 := Aside0.mk hB.size
 have HB := Aside0.mk hB
 clear hB
 have H : ((pack_Box_Get.f k l0_0 a0_1 0 1).bind fun bt215 => (some ((bt215.1 == 1), bt215.2.1, bt215.2.2))) = some (r1, r2, r3) := h
 clear h
 replace H := Option.bind_eq_some_iff.mp H
 obtain ⟨⟨t215, t216, t219⟩, A20, H⟩ := H
 replace H : (some ((t215 == 1), t216, t219)) = some (r1, r2, r3) := H
 have A2 := Aside0.mk A20
 clear A20
 simp only [Option.some.injEq, Prod.mk.injEq] at H
 obtain ⟨rfl, rfl, rfl⟩ := H
 go_enter Try.func22, Try.ntmps22
 go_wp2_with (first | ((with_reducible refine gate_callee (f := 17) rfl ?_); refine goesL_ (some 4) rfl rfl Try.func17 (by kernel_rfl) rfl #[.pointer (some ⟨gx0, 0, none⟩), .int .i64 0, .int .i64 1] rfl (by (try simp only [List.map_toArray, List.map_cons, List.map_nil]); first | done | rfl | (simp only [List.length_drop, List.length_take]; rfl)) ?_; (with_reducible refine (pack_Box_Get.calls k gx0 (fun k_ => some k_ = (u9000_ : Value).ownBlock) u9000_ l0_0 a0_1 0 1 t215 t216 t219 w0 _ ?side1 ?side2 ?side3 ?side4 A2.out).mono ?_); (case side1 => repeat (first | (with_reducible first | exact HB.out | apply kL | apply kM | apply kE | refine kS ?_ GE0.out) | exact HB.out)); (case side2 => exact (by (with_reducible repeat (first | refine kN ?_ _ | refine kD ?_ | refine kA ?_ _)); exact BK0.out)); (case side3 => exact GE0.out); (case side4 => exact Kd.Q_tight rfl HO0_0.out); rintro e w3 ⟨v217, rfl, ho0, hi, hb, hkp⟩; refine ⟨_, rfl, ?_⟩; have n0_ := Aside0.mk (hi); have n1_ := Aside0.mk (Kd.Q_mono (ok' := fun k_ => (P0_0_ k_ ∨ w.heap.size ≤ k_)) ho0 (fun k_ hk_ => Or.elim hk_ (fun hs_ => (HO0_0.out.1 k_ (hs_).symm)) (fun hn_ => (.inr (Nat.le_trans (by first | exact HK.out.1 | exact (show Kept w _ (fun k_ => (P0_0_ k_) ∨ k_ = gx0) from by repeat (first | (with_reducible first | exact HK.out | apply Kept.alloc | apply Kept.drewN | apply Kept.drew | refine Kept.setCell ?_ (.inl (.inr rfl)) _ | refine Kept.setCell ?_ (.inr GW0.out) _) | exact HK.out)).1) hn_))))); have n2_ := Aside0.mk (Kept.then_ (S := (fun k_ => (P0_0_ k_) ∨ k_ = gx0)) (by repeat (first | (with_reducible first | exact HK.out | apply Kept.alloc | apply Kept.drewN | apply Kept.drew | refine Kept.setCell ?_ (.inl (.inr rfl)) _ | refine Kept.setCell ?_ (.inr GW0.out) _) | exact HK.out)) hkp (fun k_ hs_ => Or.elim hs_ (fun hs_ => (fun e_ => Or.imp_left Or.inl ((HO0_0.out.1 k_ e_.symm))) hs_) (fun e_ => .inl (.inr e_)))); have n3_ := Aside0.mk (hb); clear BK0; clear HK; clear HB; clear HO0_0; have BK0 := n0_; have HO218 := n1_; have HK := n2_; have HB := n3_; clear n0_ n1_ n2_ n3_; (try clear hb); (try clear hkp); (try clear hi); (try clear ho0)))
 go_ret
 exact ⟨(v217), by first | rfl | (simp [errW_none, errW_some] <;> rfl) | (simp [*, errW_none, errW_some] <;> rfl), by (with_reducible repeat (first | apply Kd.Q_alloc | apply Kd.Q_drewN | apply Kd.Q_drew)); exact HO218.out, by (with_reducible repeat (first | refine kN ?_ _ | refine kD ?_ | refine kA ?_ _)); exact BK0.out, by repeat (first | (with_reducible first | exact HB.out | apply kL | apply kM | apply kE | refine kS ?_ GE0.out) | exact HB.out), by repeat (first | (with_reducible first | exact HK.out | apply Kept.alloc | apply Kept.drewN | apply Kept.drew | refine Kept.setCell ?_ (.inl (.inr rfl)) _ | refine Kept.setCell ?_ (.inr GW0.out) _) | exact HK.out)⟩

end Go.Proofs.Ytinmndkhipfccaa.PA
