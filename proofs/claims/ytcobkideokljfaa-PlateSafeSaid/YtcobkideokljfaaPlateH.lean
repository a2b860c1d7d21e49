/- The law's awake. -/
import Derived.Test.YtcobkideokljfaaPlateG
import Derived.Lib.SlBytesConst
namespace Go.Proofs.Ytcobkideokljfaa
open Go.RowKit Go.Proofs.YtcobkideokljfaaW.PrintWords
set_option linter.unusedVariables false
set_option linter.unusedSimpArgs false

abbrev z64 : List Int := List.replicate 64 0
theorem write_free (S : List (List Int)) (W : List Wr) (a s : Int) (x : Nat) (bs : List Int) : St.write ⟨S, W, -1, false, a, s⟩ x bs = (⟨S, W ++ [((x : Int), pad bs)], -1, false, wrap64 (a + 1), s⟩, 0) := by
  have h : St.act ⟨S, W, -1, false, a, s⟩ = (⟨S, W, -1, false, wrap64 (a + 1), s⟩, 0) := by
    unfold St.act
    rw [if_neg (by simp), if_neg (by simp)]
    have : mx (wrap64 (-1 - 1)) (-1) = -1 := by simp [mx, wrap64]
    simp only [this]
  unfold St.write
  rw [h]
  rfl
theorem flush_free (S : List (List Int)) (W : List Wr) (a s : Int) : St.flush ⟨S, W, -1, false, a, s⟩ = (⟨drySafe S W, [], -1, false, wrap64 (a + 1), s⟩, 0) := by
  have h : St.act ⟨S, W, -1, false, a, s⟩ = (⟨S, W, -1, false, wrap64 (a + 1), s⟩, 0) := by
    unfold St.act
    rw [if_neg (by simp), if_neg (by simp)]
    have : mx (wrap64 (-1 - 1)) (-1) = -1 := by simp [mx, wrap64]
    simp only [this]
  unfold St.flush
  rw [h]
  simp [St.dry]
theorem fall_eq (S : List (List Int)) (W : List Wr) (l : Int) (o : Bool) (a s : Int) (k : Nat) : St.fall ⟨S, W, l, o, a, s⟩ k = ⟨drySafe S (W.take (min k W.length)), [], -1, false, a, 0⟩ := rfl
theorem lit_C (w : World) (xs : List Int) (t : TypeId) (fr : Nat × Nat) (h : xs.length ≤ 9223372036854775807) : Kd.C (Kd.int .u8) (w.alloc (.cells (U xs).toArray t fr)) (some ⟨w.heap.size, 0, none⟩) xs.length xs :=
  Kd.C_of_reads (d := (0 : Int)) (enc := Value.int .u8) (h1 := fun _ => rfl) ⟨rfl, h, fun _ => ⟨_, rfl, fun j hj => by
    have e : (w.alloc (.cells (U xs).toArray t fr)).heap[w.heap.size]? = some (.cells (U xs).toArray t fr) := by
      show (w.heap.push _)[w.heap.size]? = _
      simp
    rw [add_plain]
    unfold World.cell?
    rw [e]
    simp [hj]⟩⟩
set_option maxHeartbeats 4000000 in
theorem awake_c (w : World) : Calls Try.prog 8 #[] w fun e w' => e = .returned (.bool true) ∧ Below w.heap.size w w' := by
  go_enter Try.func8, Try.ntmps8
  go_wp2_with fail
  go_at_call 9
  refine (new_c 2 2 (by decide) (by omega) _).mono ?_
  rintro e w1 ⟨c, rfl, hb, sv, wv, h, ho⟩
  have H1 : Aside0 (Pl w w1 c sv wv ⟨[z64, z64], [], -1, false, 0, 0⟩) := ⟨⟨h, hb, ho⟩⟩
  clear h hb ho
  have hcv := Go.Lib.run_convert_bytes_const (P := Try.prog) w1 22 5 #[.int .u8 104, .int .u8 105] 2 2 Try.underlying22 Try.underlying5
  go_wp2_with fail
  clear hcv
  go_at_call 10
  have hb := below_alloc (Below.refl w1.heap.size w1) (.cells #[.int .u8 104, .int .u8 105] 5 (2, 3))
  refine (write_c (H1.out.by hb).is 0 (by simp) [104, 105] (by simp) (by simp) _ 2 (lit_C w1 [104, 105] 5 (2, 3) (by simp))).mono ?_
  rintro e w2 ⟨rfl, wv2, h2, f2, o2⟩
  rw [write_free] at h2 ⊢
  have H2 := Aside0.mk ((H1.out.by hb).step h2 f2 o2)
  clear h2 f2 o2 H1 hb
  go_wp2_with fail
  go_at_call 14
  refine (fall_c H2.out.is 0).mono ?_
  rintro e w3 ⟨rfl, h3, f3⟩
  rw [fall_eq] at h3
  have H3 := Aside0.mk (H2.out.step h3 f3 own_nilw)
  clear h3 f3 H2
  go_wp2_with fail
  go_at_call 15
  refine (read_c H3.out.is rfl 0 (by simp [drySafe])).mono ?_
  rintro e w4 ⟨ga, rfl, hga, ha, hb⟩
  have HA := Aside0.mk (Off.new H3.out.is hga ha)
  have H4 := Aside0.mk (H3.out.by hb)
  clear hga ha hb H3
  have hcv := Go.Lib.run_convert_bytes_const (P := Try.prog) w4 22 5 #[.int .u8 104, .int .u8 105] 2 2 Try.underlying22 Try.underlying5
  go_wp2_with fail
  clear hcv
  go_at_call 10
  have hb := below_alloc (Below.refl w4.heap.size w4) (.cells #[.int .u8 104, .int .u8 105] 5 (2, 3))
  refine (write_c (H4.out.by hb).is 0 (by simp [drySafe]) [104, 105] (by simp) (by simp) _ 2 (lit_C w4 [104, 105] 5 (2, 3) (by simp))).mono ?_
  rintro e w5 ⟨rfl, wv5, h5, f5, o5⟩
  rw [write_free] at h5 ⊢
  have H5 := Aside0.mk ((H4.out.by hb).step h5 f5 o5)
  have HA5 := Aside0.mk ((HA.out.by hb).step f5 o5)
  clear h5 f5 o5 H4 HA hb
  go_wp2_with fail
  go_at_call 11
  refine (flush_c H5.out.is).mono ?_
  rintro e w6 ⟨rfl, ⟨wv6, h6, o6⟩, f6⟩
  rw [flush_free] at h6 ⊢
  have H6 := Aside0.mk (H5.out.step h6 f6 (fun k hk => .inl (o6 k hk)))
  have HA6 := Aside0.mk (HA5.out.step f6 (fun k hk => .inl (o6 k hk)))
  clear h6 f6 o6 H5 HA5
  go_wp2_with fail
  go_at_call 14
  refine (fall_c H6.out.is 0).mono ?_
  rintro e w7 ⟨rfl, h7, f7⟩
  rw [fall_eq] at h7
  have H7 := Aside0.mk (H6.out.step h7 f7 own_nilw)
  have HA7 := Aside0.mk (HA6.out.step f7 own_nilw)
  clear h7 f7 H6 HA6
  go_wp2_with fail
  go_at_call 15
  refine (read_c H7.out.is rfl 0 (by simp [drySafe])).mono ?_
  rintro e w8 ⟨gb, rfl, hgb, hb, hbb⟩
  have HB := Aside0.mk hb
  have HA8 := Aside0.mk (blk_below HA7.out.at_ hbb)
  have H8 := Aside0.mk (H7.out.by hbb)
  clear hgb hb hbb H7 HA7
  have hca : w8.cell? ⟨ga, 0, none⟩ = some (.int .u8 0) := (blk_cell HA8.out 0).trans rfl
  have hcb : Go.Sem.run Try.prog (Go.convert 22 9 (.slice (some ⟨gb, 0, none⟩) 3 64)) w8 = .ok (.string ⟨#[104, 105, 0]⟩) w8 := Kd.C_string (P := Try.prog) (c := 64) Try.underlying22 Try.underlying5 Try.underlying9 (Kd.C_take (m := 3) (sec_C (xs := pad [104, 105]) HB.out rfl) (by decide) : Kd.C (Kd.int .u8) w8 (some ⟨gb, 0, none⟩) 3 [104, 105, 0])
  go_wp2_with fail
  go_ret
  exact ⟨rfl, H8.out.below⟩
end Go.Proofs.Ytcobkideokljfaa
