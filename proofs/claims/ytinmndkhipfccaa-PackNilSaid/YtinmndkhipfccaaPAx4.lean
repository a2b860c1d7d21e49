-- printed by this workplace: wip/patchprint.py over the kit's print
import Derived.Test.YtinmndkhipfccaaPAx0
import Derived.Test.YtinmndkhipfccaaPAx1
import Derived.Test.YtinmndkhipfccaaPAx2
import Derived.Test.YtinmndkhipfccaaPAx3
namespace Go.Proofs.Ytinmndkhipfccaa.PA
open Go.RowKit Go.Proofs.YtinmndkhipfccaaW.PrintWords Go.Proofs.YtinmndkhipfccaaW.PrintLast Go.Proofs.YtinmndkhipfccaaW.PrintMore
attribute [local go_sem] max2_int min2_int max_two min_two max_three min_three max_four min_four   -- for this text's walks alone
set_option linter.unusedVariables false
set_option linter.unusedSimpArgs false

/-! ### paybooklaw05_awake: function 10 -/
def paybooklaw05_awake.f (k : Nat)  : Option (Bool) := (pack_New.f).bind fun bt112 => ((pack_Box_Put.f k bt112.1 bt112.2 (([5, (-1), 100] : List Int))).bind fun bt120 => ((pack_Box_Done.f bt120.1 bt120.2).bind fun bt124 => (some ((strOfNums bt124.1).toList == ([10, 1, 72, 3] : List UInt8)))))
theorem paybooklaw05_awake.mono : ∀ k, LeO (paybooklaw05_awake.f k ) (paybooklaw05_awake.f (k + 1) ) := by
 intro  k
 unfold paybooklaw05_awake.f
 repeat' first
   | (with_reducible exact pack_Box_Put.mono _ _ _ _)
   | (with_reducible exact LeO.refl _)
   | (with_reducible exact LeO.none _)
   | (with_reducible refine LeO.ite ?_ ?_)
   | (with_reducible refine LeO.bind ?_ (fun _ => ?_))
   | exact pack_Box_Put.mono _ _ _ _
   | exact LeO.none _
   | refine LeO.ite ?_ ?_
   | refine LeO.bind ?_ (fun _ => ?_)
set_option maxHeartbeats 40000000 in
set_option maxRecDepth 100000 in
theorem paybooklaw05_awake.calls (k : Nat)  (r : Bool) (w : World) (h : paybooklaw05_awake.f k  = some r) :
  Calls Try.prog 10 #[] w fun e w' => e = .returned (.bool r) ∧ Below w.heap.size w w' := by
 have HB := Aside0.mk (Below.refl w.heap.size w)
 have H : ((pack_New.f).bind fun bt112 => ((pack_Box_Put.f k bt112.1 bt112.2 (([5, (-1), 100] : List Int))).bind fun bt120 => ((pack_Box_Done.f bt120.1 bt120.2).bind fun bt124 => (some ((strOfNums bt124.1).toList == ([10, 1, 72, 3] : List UInt8)))))) = some r := h
 clear h
 replace H := Option.bind_eq_some_iff.mp H
 obtain ⟨⟨t112, t115⟩, A10, H⟩ := H
 replace H : ((pack_Box_Put.f k t112 t115 (([5, (-1), 100] : List Int))).bind fun bt120 => ((pack_Box_Done.f bt120.1 bt120.2).bind fun bt124 => (some ((strOfNums bt124.1).toList == ([10, 1, 72, 3] : List UInt8))))) = some r := H
 have A1 := Aside0.mk A10
 clear A10
 obtain ⟨y117, hy117⟩ : ∃ y_ : List Int, y_ = (([5, (-1), 100] : List Int)) := ⟨_, rfl⟩
 replace H : ((pack_Box_Put.f k t112 t115 y117).bind fun bt120 => ((pack_Box_Done.f bt120.1 bt120.2).bind fun bt124 => (some ((strOfNums bt124.1).toList == ([10, 1, 72, 3] : List UInt8))))) = some r := by first | (rw [hy117]; with_reducible exact H) | (have H2_ := (Option.bind_some _ _).symm.trans H; rw [hy117]; with_reducible exact H2_) | (have H2_ := (Option.bind_some _ _).symm.trans H; with_reducible exact H2_) | with_reducible exact H | (rw [hy117]; exact H) | exact H
 have Ny117 := Aside0.mk hy117
 clear hy117
 replace H := Option.bind_eq_some_iff.mp H
 obtain ⟨⟨t120, t123⟩, A20, H⟩ := H
 replace H : ((pack_Box_Done.f t120 t123).bind fun bt124 => (some ((strOfNums bt124.1).toList == ([10, 1, 72, 3] : List UInt8)))) = some r := H
 have A2 := Aside0.mk A20
 clear A20
 replace H := Option.bind_eq_some_iff.mp H
 obtain ⟨⟨t124, t127, t130⟩, A30, H⟩ := H
 replace H : (some ((strOfNums t124).toList == ([10, 1, 72, 3] : List UInt8))) = some r := H
 have A3 := Aside0.mk A30
 clear A30
 obtain rfl := Option.some.inj H
 go_enter Try.func10, Try.ntmps10
 go_wp2_with (first | (go_at_call 11; (with_reducible refine (pack_New.calls  t112 t115 _ A1.out).mono ?_); rintro e w4 ⟨v113, gb116, rfl, ho0, hnb116, hnl116, hb⟩; have n0_ := Aside0.mk (Kd.R_lower ho0 (below_size (by repeat (first | (with_reducible first | exact HB.out | apply kL | apply kM | apply kE) | exact HB.out)))); have n1_ := Aside0.mk (hnb116); have n2_ := Aside0.mk ((Nat.le_trans (below_size (by repeat (first | (with_reducible first | exact HB.out | apply kL | apply kM | apply kE) | exact HB.out))) hnl116 : w.heap.size ≤ gb116)); have n3_ := Aside0.mk ((Nat.le_trans (below_size (by repeat (first | (with_reducible first | exact HB.out | apply kL | apply kM | apply kE) | exact HB.out))) hnl116 : w.heap.size ≤ gb116)); have n4_ := Aside0.mk (below_step (by repeat (first | (with_reducible first | exact HB.out | apply kL | apply kM | apply kE) | exact HB.out)) hb); clear HB; have HO114 := n0_; have BK116 := n1_; have GW116 := n2_; have GE116 := n3_; have HB := n4_; clear n0_ n1_ n2_ n3_ n4_; (try clear hb); (try clear hb2); (try clear hk); (try clear hi); (try clear ho0)) | ((with_reducible refine gate_callee (f := 11) rfl ?_); refine goesL_ (some 1) rfl rfl Try.func11 (by kernel_rfl) rfl #[] rfl (by (try simp only [List.map_toArray, List.map_cons, List.map_nil]); first | done | rfl | (simp only [List.length_drop, List.length_take]; rfl)) ?_; (with_reducible refine (pack_New.calls  t112 t115 _ A1.out).mono ?_); rintro e w4 ⟨v113, gb116, rfl, ho0, hnb116, hnl116, hb⟩; refine ⟨_, rfl, ?_⟩; have n0_ := Aside0.mk (Kd.R_lower ho0 (below_size (by repeat (first | (with_reducible first | exact HB.out | apply kL | apply kM | apply kE) | exact HB.out)))); have n1_ := Aside0.mk (hnb116); have n2_ := Aside0.mk ((Nat.le_trans (below_size (by repeat (first | (with_reducible first | exact HB.out | apply kL | apply kM | apply kE) | exact HB.out))) hnl116 : w.heap.size ≤ gb116)); have n3_ := Aside0.mk ((Nat.le_trans (below_size (by repeat (first | (with_reducible first | exact HB.out | apply kL | apply kM | apply kE) | exact HB.out))) hnl116 : w.heap.size ≤ gb116)); have n4_ := Aside0.mk (below_step (by repeat (first | (with_reducible first | exact HB.out | apply kL | apply kM | apply kE) | exact HB.out)) hb); clear HB; have HO114 := n0_; have BK116 := n1_; have GW116 := n2_; have GE116 := n3_; have HB := n4_; clear n0_ n1_ n2_ n3_ n4_; (try clear hb); (try clear hb2); (try clear hk); (try clear hi); (try clear ho0)) | ((with_reducible refine gate_dst (N := 2) rfl ?_); refine Kd.R_lit (Kd.int .i64) _ 2 ?hg (N := 2) ?hd (xs := ([5, (-1), 100] : List Int)) (inner := [.int .i64 5, .int .i64 (-1), .int .i64 100]) (ok := fun _ => True) (okp := fun _ => True) ?hr ?hp (fun _ hk => hk) trivial (Below.refl _ _) (Nat.le_refl _) (by simp) ?_; (case hd => rfl); (case hg => rfl); (case hr => first | (go_simp; done) | (go_simp; rfl)); (case hp => exact (Reps.one (show Kd.M (Kd.int .i64) _ _ _ 5 [.int .i64 5] from rfl) (Reps.one (show Kd.M (Kd.int .i64) _ _ _ (-1) [.int .i64 (-1)] from rfl) (Reps.one (show Kd.M (Kd.int .i64) _ _ _ 100 [.int .i64 100] from rfl) (Reps.none _ _))))); intro v118 w5 ho6 hb hg_ hnew_; clear hg_ hnew_; (first | rw [← Ny117.out] at ho6 | (simp only [Int.reduceToNat] at ho6; rw [← Ny117.out] at ho6)); have n0_ := Aside0.mk (Kd.R_below (by (with_reducible repeat (first | apply Kd.R_alloc | apply Kd.R_drewN | apply Kd.R_drew)); exact HO114.out) hb); have n1_ := Aside0.mk (Kd.R_lower ho6 (below_size (by repeat (first | (with_reducible first | exact HB.out | apply kL | apply kM | apply kE | refine kS ?_ GE116.out) | exact HB.out)))); have n2_ := Aside0.mk (blk_below (g := gb116) (o := .cells #[v113, .int .i64 t115] 51 (0, 0)) (by (with_reducible repeat (first | refine kN ?_ _ | refine kD ?_ | refine kA ?_ _)); exact BK116.out) hb); have n3_ := Aside0.mk (below_step (by repeat (first | (with_reducible first | exact HB.out | apply kL | apply kM | apply kE | refine kS ?_ GE116.out) | exact HB.out)) hb); clear HO114; clear BK116; clear HB; have HO114 := n0_; have HO119 := n1_; have BK116 := n2_; have HB := n3_; clear n0_ n1_ n2_ n3_; clear hb ho6; obtain ⟨Ao7, co7, eo7⟩ := Kd.R_slice HO119.out; subst eo7) | ((with_reducible refine gate_callee (f := 12) rfl ?_); refine goesL_ (some 3) rfl rfl Try.func12 (by kernel_rfl) rfl #[.pointer (some ⟨gb116, 0, none⟩), .slice Ao7 y117.length co7] rfl (by (try simp only [List.map_toArray, List.map_cons, List.map_nil]); first | done | rfl | (simp only [List.length_drop, List.length_take]; rfl)) ?_; (with_reducible refine (pack_Box_Put.calls k gb116 (fun k_ => some k_ = (v113 : Value).ownBlock) v113 t112 t115 _ _ y117 t120 t123 w _ ?side1 ?side2 ?side3 ?side4 ?side5 ?side6 A2.out).mono ?_); (case side1 => repeat (first | (with_reducible first | exact HB.out | apply kL | apply kM | apply kE | refine kS ?_ GE116.out) | exact HB.out)); (case side2 => exact (by (with_reducible repeat (first | refine kN ?_ _ | refine kD ?_ | refine kA ?_ _)); exact BK116.out)); (case side3 => exact GE116.out); (case side4 => exact Kd.R_tight rfl HO114.out); (case side5 => exact Kd.C_kept_own ((Kd.R_types (Kd.R_apart' HO119.out (Kd.R_typed HO114.out) (by decide)) BK116.out (by decide))) (fun k_ hk_ hs_ => Or.elim hs_ (fun hs_ => (hk_.1.2) hs_) (fun e_ => (hk_.2) e_))); (case side6 => exact (Kd.R_reads' HO119.out).2.1); rintro e w8 ⟨v121, rfl, ho0, hi, hb, hkp⟩; refine ⟨_, rfl, ?_⟩; have n0_ := Aside0.mk (hi); have n1_ := Aside0.mk (Kd.R_mono (ok' := fun k_ => True) (Kd.R_keptB ((Kd.R_types (Kd.R_apart' HO119.out (Kd.R_typed HO114.out) (by decide)) BK116.out (by decide))) hkp (fun k_ hk_ hs_ => Or.elim hs_ (fun hs_ => (hk_.1.2) hs_) (fun e_ => (hk_.2) e_))) (fun k_ hk_ => trivial)); have n2_ := Aside0.mk (Kd.R_mono (ok' := fun k_ => True) ho0 (fun k_ hk_ => trivial)); have n3_ := Aside0.mk (hb); clear BK116; clear HO119; clear HB; clear HO114; have BK116 := n0_; have HO119 := n1_; have HO122 := n2_; have HB := n3_; clear n0_ n1_ n2_ n3_; (try clear hb); (try clear hkp); (try clear hi); (try clear ho0)) | ((with_reducible refine gate_callee (f := 13) rfl ?_); refine goesL_ (some 4) rfl rfl Try.func13 (by kernel_rfl) rfl #[.pointer (some ⟨gb116, 0, none⟩)] rfl (by (try simp only [List.map_toArray, List.map_cons, List.map_nil]); first | done | rfl | (simp only [List.length_drop, List.length_take]; rfl)) ?_; (with_reducible refine (pack_Box_Done.calls gb116 (fun k_ => some k_ = (v121 : Value).ownBlock) v121 t120 t123 t124 t127 t130 w _ ?side1 ?side2 ?side3 ?side4 A3.out).mono ?_); (case side1 => repeat (first | (with_reducible first | exact HB.out | apply kL | apply kM | apply kE | refine kS ?_ GE116.out) | exact HB.out)); (case side2 => exact (by (with_reducible repeat (first | refine kN ?_ _ | refine kD ?_ | refine kA ?_ _)); exact BK116.out)); (case side3 => exact GE116.out); (case side4 => exact Kd.R_tight rfl HO122.out); rintro e w9 ⟨v125, v128, rfl, ho0, ho1, hi, hb, hkp⟩; refine ⟨_, rfl, ?_⟩; have n0_ := Aside0.mk (hi); have n1_ := Aside0.mk (Kd.R_mono (ok' := fun k_ => True) (Kd.R_keptB ((Kd.R_types (Kd.R_apart' HO119.out (Kd.R_typed HO122.out) (by decide)) BK116.out (by decide))) hkp (fun k_ hk_ hs_ => Or.elim hs_ (fun hs_ => (hk_.1.2) hs_) (fun e_ => (hk_.2) e_))) (fun k_ hk_ => trivial)); have n2_ := Aside0.mk (Kd.R_mono (ok' := fun k_ => some k_ ≠ (v128 : Value).ownBlock) ho0 (fun k_ hk_ => hk_.2)); have n3_ := Aside0.mk (Kd.R_mono (ok' := fun k_ => some k_ ≠ (v125 : Value).ownBlock) ho1 (fun k_ hk_ => hk_.2)); have n4_ := Aside0.mk (hb); clear BK116; clear HO119; clear HB; clear HO122; have BK116 := n0_; have HO119 := n1_; have HO126 := n2_; have HO129 := n3_; have HB := n4_; clear n0_ n1_ n2_ n3_ n4_; (try clear hb); (try clear hkp); (try clear hi); (try clear ho0); (try clear ho1); have hcv10 := own_string (P := Try.prog) Try.underlying24 Try.underlying5 Try.underlying9 (Kd.own_of_R HO126.out)))
 go_ret
 exact ⟨by first | rfl | (simp [errW_none, errW_some] <;> rfl) | (simp [*, errW_none, errW_some] <;> rfl), by repeat (first | (with_reducible first | exact HB.out | apply kL | apply kM | apply kE | refine kS ?_ GE116.out) | exact HB.out)⟩

end Go.Proofs.Ytinmndkhipfccaa.PA
