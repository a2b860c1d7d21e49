/- The law's look at both plates. -/
import Derived.Test.YtcobkideokljfaaPlateT
namespace Go.Proofs.Ytcobkideokljfaa
open Go.RowKit Go.Proofs.YtcobkideokljfaaW.PrintWords Go.Proofs.YtcobkideokljfaaW.PrintLast Go.Proofs.YtcobkideokljfaaW.PrintMore Go.Proofs.Ytcobkideokljfaa.PA
set_option linter.unusedVariables false
set_option linter.unusedSimpArgs false
structure SmS (w V : World) (g3 : Nat) (cs : Array Value) : Prop where
  b : Below w.heap.size w V
  q : V.heap[g3]? = some (.cells cs 33 (0, 0))
theorem SmS.step {w V V' : World} {g3 : Nat} {cs : Array Value} (h : SmS w V g3 cs) (hb : Below V.heap.size V V') : SmS w V' g3 cs := ⟨h.b.trans (hb.mono h.b.size), blk_below h.q hb⟩
structure SmZ (w V : World) (g3 gb : Nat) (cs : Array Value) (T : List Int) : Prop where
  b : Below w.heap.size w V
  q : V.heap[g3]? = some (.cells cs 33 (0, 0))
  z : V.heap[gb]? = some (.cells (U T).toArray 55 (0, 0))
theorem SmZ.step {w V V' : World} {g3 gb : Nat} {cs : Array Value} {T : List Int} (h : SmZ w V g3 gb cs T) (hb : Below V.heap.size V V') : SmZ w V' g3 gb cs T := ⟨h.b.trans (hb.mono h.b.size), blk_below h.q hb, blk_below h.z hb⟩
theorem sec_str {w : World} {g : Nat} {xs : List Int} (h : w.heap[g]? = some (.cells (U xs).toArray 55 (0, 0))) (hl : xs.length = 64) : Go.Sem.run Try.prog (Go.convert 22 9 (.slice (some ⟨g, 0, none⟩) 64 64)) w = .ok (.string (strOfNums xs)) w := by
  have hcs := Kd.C_string (P := Try.prog) (c := 64) Try.underlying22 Try.underlying5 Try.underlying9 (sec_C h hl)
  rw [hl] at hcs
  exact hcs
def sm10.T10 : Bool × List (List Nat × List Nat) := (true, [([], []), ([0], [0]), ([1], [1]), ([2], [2]), ([3, 2], [2, 3]), ([2], [2]), ([2], [2]), ([5, 6, 2, 2], [2, 5, 6]), ([7, 2], [2, 7]), ([4, 8, 2], [2, 4, 8]), ([2, 9], [2, 9])])
def sm10.B10 : List Nat := [0, 1, 3, 7, 15, 7, 7, 103, 231, 511, 1023]
theorem sm10.tab10 : rtab .any (opsOf Try.f19 10) = sm10.T10 := by kernel_rfl
theorem sm10.bits10 : waitsOk sm10.T10.2 sm10.B10 = true := by kernel_rfl
set_option maxHeartbeats 8000000 in
theorem law_same {w : World} {c : Nat} {sv wv : Value} {p : St} {P : Nat → Prop} {x : Value} {sp : Int} (H : IsPlate w c sv wv p) (HR : RefIs w P x p sp) :
    Calls Try.prog 19 #[.pointer (some ⟨c, 0, none⟩), x] w fun e w' => e = .returned (.bool true) ∧ Below w.heap.size w w' := by
  obtain ⟨A0, c0, A1, c1, rfl, _, _⟩ := id HR
  have HH := Aside0.mk H
  have HHR := Aside0.mk HR
  clear H HR
  obtain ⟨po, hpo⟩ : ∃ b, b = p.off := ⟨_, rfl⟩
  rw [← hpo] at HHR ⊢
  cases po
  · have HPO : Aside0 (p.off = false) := ⟨hpo.symm⟩
    clear hpo
    have HW1 : Aside0 (SmS w (w.alloc (.cells #[.slice A0 p.safe.length c0, .slice A1 p.wet.length c1, .int .i64 p.left, .int .i64 sp, .bool false, .int .i64 p.acts] 33)) w.heap.size #[.slice A0 p.safe.length c0, .slice A1 p.wet.length c1, .int .i64 p.left, .int .i64 sp, .bool false, .int .i64 p.acts]) := ⟨⟨below_alloc (Below.refl _ _) _, blk_new _ _⟩⟩
    obtain ⟨g3, hg3⟩ : ∃ g, g = w.heap.size := ⟨_, rfl⟩
    obtain ⟨W, hW⟩ : ∃ W, W = w.alloc (.cells #[.slice A0 p.safe.length c0, .slice A1 p.wet.length c1, .int .i64 p.left, .int .i64 sp, .bool false, .int .i64 p.acts] 33) := ⟨_, rfl⟩
    go_enter Try.func19, Try.ntmps19
    go_upto_region 1 with fail
    rw [← hW, ← hg3] at HW1
    rw [← hW, ← hg3]
    clear hW hg3
    have HIW := Aside0.mk (HH.out.below HW1.out.b)
    have Q1 : Aside0 (∀ nq, Calls Try.prog 17 #[.pointer (some ⟨c, 0, none⟩)] (W.drewN nq) fun e w' => e = .returned (.bool (!p.off)) ∧ w' = W.drewN nq) := ⟨fun nq => on_c (HIW.out.same rfl)⟩
    have Q2 : Aside0 (∀ nq, Calls Try.prog 21 #[.pointer (some ⟨c, 0, none⟩)] (W.drewN nq) fun e w' => e = .returned (.int .i64 p.acts) ∧ w' = W.drewN nq) := ⟨fun nq => acts_c (HIW.out.same rfl)⟩
    have Q3 : Aside0 (∀ nq, Calls Try.prog 22 #[.pointer (some ⟨c, 0, none⟩)] (W.drewN nq) fun e w' => e = .returned (.int .i64 p.wet.length) ∧ w' = W.drewN nq) := ⟨fun nq => wet_c (HIW.out.same rfl)⟩
    have Q4 : Aside0 (∀ nq, Calls Try.prog 20 #[.pointer (some ⟨c, 0, none⟩)] (W.drewN nq) fun e w' => e = .returned (.int .i64 p.safe.length) ∧ w' = W.drewN nq) := ⟨fun nq => size_c (HIW.out.same rfl)⟩
    rw [HPO.out] at Q1
    obtain ⟨e0, e1, e2, e3, e4, e5, ef⟩ := cells6 HW1.out.q
    go_quiet (first
      | (go_at_call 17; exact Calls.quiet_of_same (Q1.out _))
      | (go_at_call 21; exact Calls.quiet_of_same (Q2.out _))
      | (go_at_call 22; exact Calls.quiet_of_same (Q3.out _))
      | (go_at_call 20; exact Calls.quiet_of_same (Q4.out _)))
    clear Q1 Q2 Q3 Q4
    go_wp2_with fail
    go_loopg [5] p.safe.length (fun kq v5 wr => ∃ i : Nat, v5 = .int .i64 i ∧ i ≤ p.safe.length ∧ Aside0 (kq = p.safe.length - i) ∧ Aside0 (SmS w wr g3 #[.slice A0 p.safe.length c0, .slice A1 p.wet.length c1, .int .i64 p.left, .int .i64 sp, .bool false, .int .i64 p.acts]))
    case atStart => exact ⟨0, rfl, by omega, ⟨rfl⟩, ⟨HW1.out.step (pw_below_drewN (Below.refl _ _) _)⟩⟩
    case round =>
      obtain ⟨i, rfl, hi, hkq, HT⟩ := hrel
      have hsn := HH.out.fit.sn
      obtain ⟨e0, e1, e2, e3, e4, e5, ef⟩ := cells6 HT.out.q
      by_cases hlt : i < p.safe.length
      · have i1 : (i : Int) < p.safe.length := by omega
        have HLT := Aside0.mk hlt
        clear hlt
        go_wp2_with fail
        go_at_call 15
        refine (read_c (HH.out.below HT.out.b) HPO.out i HLT.out).mono ?_
        rintro e w8 ⟨gb, rfl, hgb, hz, hb⟩
        have HN8 : Aside0 (SmZ w w8 g3 gb #[.slice A0 p.safe.length c0, .slice A1 p.wet.length c1, .int .i64 p.left, .int .i64 sp, .bool false, .int .i64 p.acts] (p.sector i)) := ⟨⟨HT.out.b.trans (hb.mono HT.out.b.size), blk_below HT.out.q hb, hz⟩⟩
        have HSL : Aside0 ((p.sector i).length = 64) := ⟨look_len (by rw [List.getD_eq_getElem?_getD, List.getElem?_eq_getElem HLT.out]; exact HH.out.fit.sl _ (List.getElem_mem _)) HH.out.fit.wl⟩
        clear hgb hz hb e0 e1 e2 e3 e4 e5 ef
        obtain ⟨x0, x1, x2, x3, x4, x5, xf⟩ := cells6 HN8.out.q
        have RD := Aside0.mk (rread_c ((HHR.out.below HN8.out.b).below (below_drew (Below.refl _ _))) HH.out.fit i HLT.out)
        have hcpd : Go.Sem.run Try.prog (Go.convert 22 9 (.slice (some ⟨gb, 0, none⟩) 64 64)) w8.drew = .ok (.string (strOfNums (p.sector i))) w8.drew := sec_str (w := w8.drew) HN8.out.z HSL.out
        go_upto_region 10 with fail
        refine start_ (n := 11) (S := fun w' => w'.cell? ⟨g3, 0, none⟩ = some (.slice A0 p.safe.length c0) ∧ w'.cell? ⟨g3, 1, none⟩ = some (.slice A1 p.wet.length c1) ∧ w'.cell? ⟨g3, 2, none⟩ = some (.int .i64 p.left) ∧ w'.cell? ⟨g3, 3, none⟩ = some (.int .i64 sp) ∧ w'.cell? ⟨g3, 4, none⟩ = some (.bool false) ∧ w'.cell? ⟨g3, 5, none⟩ = some (.int .i64 p.acts) ∧ Go.Sem.run Try.prog (Go.convert 22 9 (.slice (some ⟨gb, 0, none⟩) 64 64)) w' = .ok (.string (strOfNums (p.sector i))) w') (ds := []) #[false, false, false, false, false, false, false, false, false, false, false] (by kernel_rfl) rfl rfl ⟨x0, x1, x2, x3, x4, x5, hcpd⟩ (fun hHeld => ?_)
        refine with_tabW sm10.tab10 sm10.bits10 (fun HT_ HW_ => ?_)
        refine pure_ (i := 0) (N := some 58) (v := ?_) (a' := ?_) #[true, false, false, false, false, false, false, false, false, false, false] rfl rfl (any_of HT_.out (by kernel_rfl)) (fun _ _ _ h => h) (Or.inl ⟨by rfl, ?_⟩) ?_ ?_
        rotate_left
        · intro w'
          go_simp
          with_reducible rfl
        rotate_left
        · simp only [Act.put, List.setIfInBounds_toArray, List.set_cons_zero, List.set_cons_succ, i64_w, i32_w]
          rfl
        refine pure_ (i := 1) (N := some 59) (v := ?_) (a' := ?_) #[true, true, false, false, false, false, false, false, false, false, false] rfl rfl (any_of HT_.out (by kernel_rfl)) (fun _ _ _ h => h) (Or.inl ⟨by rfl, ?_⟩) ?_ ?_
        rotate_left
        · intro w'
          go_simp
          with_reducible rfl
        rotate_left
        · simp only [Act.put, List.setIfInBounds_toArray, List.set_cons_zero, List.set_cons_succ, i64_w, i32_w]
          rfl
        refine pure_ (i := 2) (N := some 60) (v := ?_) (a' := ?_) #[true, true, true, false, false, false, false, false, false, false, false] rfl rfl (any_of HT_.out (by kernel_rfl)) (fun _ _ _ h => h) (Or.inl ⟨by rfl, ?_⟩) ?_ ?_
        rotate_left
        · intro w'
          go_simp
          with_reducible rfl
        rotate_left
        · simp only [Act.put, List.setIfInBounds_toArray, List.set_cons_zero, List.set_cons_succ, i64_w, i32_w]
          rfl
        refine pure_ (i := 3) (N := some 61) (v := ?_) (a' := ?_) #[true, true, true, true, false, false, false, false, false, false, false] rfl rfl (any_of HT_.out (by kernel_rfl)) (fun _ _ _ h => h) (Or.inl ⟨by rfl, ?_⟩) ?_ ?_
        rotate_left
        · intro w'
          go_simp
          with_reducible rfl
        rotate_left
        · simp only [Act.put, List.setIfInBounds_toArray, List.set_cons_zero, List.set_cons_succ, i64_w, i32_w]
          rfl
        refine pure_ (i := 6) (N := some 64) (v := ?_) (a' := ?_) #[true, true, true, true, false, false, true, false, false, false, false] rfl rfl (any_of HT_.out (by kernel_rfl)) (fun _ _ _ h => h) (Or.inl ⟨by rfl, ?_⟩) ?_ ?_
        rotate_left
        · intro w'
          go_simp
          with_reducible rfl
        rotate_left
        · simp only [Act.put, List.setIfInBounds_toArray, List.set_cons_zero, List.set_cons_succ, i64_w, i32_w]
          rfl
        refine take_ (i := 4) (N := some 62) (v := ?_) (a' := ?_) #[true, true, true, true, true, false, true, false, false, false, false] rfl rfl (take_ofW HT_.out HW_.out (by kernel_rfl)) (fun _ _ _ h => h) (Or.inl ⟨by rfl, ?_⟩) hHeld ?_ ?_
        rotate_left
        · rintro w' ⟨s0, s1, s2, s3, s4, s5, s6⟩
          go_simp
          with_reducible rfl
        rotate_left
        · simp only [Act.put, List.setIfInBounds_toArray, List.set_cons_zero, List.set_cons_succ, i64_w, i32_w]
          rfl
        refine take_ (i := 5) (N := some 63) (v := ?_) (a' := ?_) #[true, true, true, true, true, true, true, false, false, false, false] rfl rfl (take_ofW HT_.out HW_.out (by kernel_rfl)) (fun _ _ _ h => h) (Or.inl ⟨by rfl, ?_⟩) hHeld ?_ ?_
        rotate_left
        · rintro w' ⟨s0, s1, s2, s3, s4, s5, s6⟩
          go_simp
          with_reducible rfl
        rotate_left
        · simp only [Act.put, List.setIfInBounds_toArray, List.set_cons_zero, List.set_cons_succ, i64_w, i32_w]
          rfl
        refine one_ (i := 7) (N := some 65) #[true, true, true, true, true, true, true, true, false, false, false] rfl rfl (one_of HT_.out (by kernel_rfl)) (by decide) (fun K hK => ?_)
        refine goes_ Try.func30 (by kernel_rfl) rfl #[.agg #[.slice A0 p.safe.length c0, .slice A1 p.wet.length c1, .int .i64 p.left, .int .i64 sp, .bool false, .int .i64 p.acts], .int .i64 i] (by rfl) rfl rfl (by simp only [List.map_toArray, List.map_cons, List.map_nil]; rfl) ?_
        with_reducible refine RD.out.mono ?_
        rintro r w9 ⟨v, rfl, hv, hb⟩
        refine ⟨_, rfl, ?_⟩
        obtain ⟨Av, cv, rfl⟩ := Kd.V_slice hv
        have hcx := Kd.C_string (P := Try.prog) (c := cv) Try.underlying22 Try.underlying5 Try.underlying9 (Kd.V_reads' hv).2.2
        have HN9 := Aside0.mk (HN8.out.step ((below_drew (Below.refl w8.heap.size w8)).trans hb))
        have hcq := sec_str HN9.out.z HSL.out
        have k0 := (cells6 HN9.out.q).1
        have k1 := (cells6 HN9.out.q).2.1
        have k2 := (cells6 HN9.out.q).2.2.1
        have k3 := (cells6 HN9.out.q).2.2.2.1
        have k4 := (cells6 HN9.out.q).2.2.2.2.1
        have k5 := (cells6 HN9.out.q).2.2.2.2.2.1
        clear hv hb
        refine hK.out _ _ ⟨k0, k1, k2, k3, k4, k5, hcq⟩ (fun hHeld => ?_)
        clear hK K
        refine norm_ (a' := ?_) ?_ ?_
        rotate_left
        · show Act.put _ (some 65) _ = _
          simp only [Act.put, List.setIfInBounds_toArray, List.set_cons_zero, List.set_cons_succ, i64_w, i32_w]
          rfl
        refine one_ (i := 8) (N := some 66) #[true, true, true, true, true, true, true, true, true, false, false] rfl rfl (one_of HT_.out (by kernel_rfl)) (by decide) (fun K hK => ?_)
        refine value_ (w1 := ?_) (v := ?_) (by rfl) rfl ?_ ?_
        rotate_left 2
        · go_simp
          constructor
          · rfl
          · rfl
        refine hK.out _ _ ⟨k0, k1, k2, k3, k4, k5, hcq⟩ (fun hHeld => ?_)
        clear hK K
        refine norm_ (a' := ?_) ?_ ?_
        rotate_left
        · show Act.put _ (some 66) _ = _
          simp only [Act.put, List.setIfInBounds_toArray, List.set_cons_zero, List.set_cons_succ, i64_w, i32_w]
          rfl
        refine pure_ (i := 9) (N := some 67) (v := ?_) (a' := ?_) #[true, true, true, true, true, true, true, true, true, true, false] rfl rfl (any_of HT_.out (by kernel_rfl)) (fun _ _ _ h => h) (Or.inl ⟨by rfl, ?_⟩) ?_ ?_
        rotate_left
        · intro w'
          go_simp
          with_reducible rfl
        rotate_left
        · simp only [Act.put, List.setIfInBounds_toArray, List.set_cons_zero, List.set_cons_succ, i64_w, i32_w]
          rfl
        refine pure_ (i := 10) (N := some 68) (v := ?_) (a' := ?_) #[true, true, true, true, true, true, true, true, true, true, true] rfl rfl (any_of HT_.out (by kernel_rfl)) (fun _ _ _ h => h) (Or.inl ⟨by rfl, ?_⟩) ?_ ?_
        rotate_left
        · intro w'
          go_simp
          with_reducible rfl
        rotate_left
        · simp only [Act.put, List.setIfInBounds_toArray, List.set_cons_zero, List.set_cons_succ, i64_w, i32_w]
          rfl
        refine done_ (done_of HT_.out (by kernel_rfl)) ?_
        clear k0 k1 k2 k3 k4 k5 hcq x0 x1 x2 x3 x4 x5 hcpd
        go_wp2_with fail
        go_roundg (p.safe.length - (i + 1))
        case measure => have := hkq.out; have := HLT.out; omega
        case rel => exact ⟨i + 1, by go_num, by have := HLT.out; omega, ⟨rfl⟩, ⟨⟨HN9.out.b, HN9.out.q⟩⟩⟩
      · have i1 : ¬ (i : Int) < p.safe.length := by omega
        clear hlt
        go_wp2_with fail
        go_ret
        exact ⟨rfl, HT.out.b⟩
  · have HPO : Aside0 (p.off = true) := ⟨hpo.symm⟩
    clear hpo
    have HW1 : Aside0 (SmS w (w.alloc (.cells #[.slice A0 p.safe.length c0, .slice A1 p.wet.length c1, .int .i64 p.left, .int .i64 sp, .bool true, .int .i64 p.acts] 33)) w.heap.size #[.slice A0 p.safe.length c0, .slice A1 p.wet.length c1, .int .i64 p.left, .int .i64 sp, .bool true, .int .i64 p.acts]) := ⟨⟨below_alloc (Below.refl _ _) _, blk_new _ _⟩⟩
    obtain ⟨g3, hg3⟩ : ∃ g, g = w.heap.size := ⟨_, rfl⟩
    obtain ⟨W, hW⟩ : ∃ W, W = w.alloc (.cells #[.slice A0 p.safe.length c0, .slice A1 p.wet.length c1, .int .i64 p.left, .int .i64 sp, .bool true, .int .i64 p.acts] 33) := ⟨_, rfl⟩
    go_enter Try.func19, Try.ntmps19
    go_upto_region 1 with fail
    rw [← hW, ← hg3] at HW1
    rw [← hW, ← hg3]
    clear hW hg3
    have HIW := Aside0.mk (HH.out.below HW1.out.b)
    have Q1 : Aside0 (∀ nq, Calls Try.prog 17 #[.pointer (some ⟨c, 0, none⟩)] (W.drewN nq) fun e w' => e = .returned (.bool (!p.off)) ∧ w' = W.drewN nq) := ⟨fun nq => on_c (HIW.out.same rfl)⟩
    have Q2 : Aside0 (∀ nq, Calls Try.prog 21 #[.pointer (some ⟨c, 0, none⟩)] (W.drewN nq) fun e w' => e = .returned (.int .i64 p.acts) ∧ w' = W.drewN nq) := ⟨fun nq => acts_c (HIW.out.same rfl)⟩
    have Q3 : Aside0 (∀ nq, Calls Try.prog 22 #[.pointer (some ⟨c, 0, none⟩)] (W.drewN nq) fun e w' => e = .returned (.int .i64 p.wet.length) ∧ w' = W.drewN nq) := ⟨fun nq => wet_c (HIW.out.same rfl)⟩
    have Q4 : Aside0 (∀ nq, Calls Try.prog 20 #[.pointer (some ⟨c, 0, none⟩)] (W.drewN nq) fun e w' => e = .returned (.int .i64 p.safe.length) ∧ w' = W.drewN nq) := ⟨fun nq => size_c (HIW.out.same rfl)⟩
    rw [HPO.out] at Q1
    obtain ⟨e0, e1, e2, e3, e4, e5, ef⟩ := cells6 HW1.out.q
    go_quiet (first
      | (go_at_call 17; exact Calls.quiet_of_same (Q1.out _))
      | (go_at_call 21; exact Calls.quiet_of_same (Q2.out _))
      | (go_at_call 22; exact Calls.quiet_of_same (Q3.out _))
      | (go_at_call 20; exact Calls.quiet_of_same (Q4.out _)))
    clear Q1 Q2 Q3 Q4
    go_wp2_with fail
    go_loopg [5] p.safe.length (fun kq v5 wr => ∃ i : Nat, v5 = .int .i64 i ∧ i ≤ p.safe.length ∧ Aside0 (kq = p.safe.length - i) ∧ Aside0 (SmS w wr g3 #[.slice A0 p.safe.length c0, .slice A1 p.wet.length c1, .int .i64 p.left, .int .i64 sp, .bool true, .int .i64 p.acts]))
    case atStart => exact ⟨0, rfl, by omega, ⟨rfl⟩, ⟨HW1.out.step (pw_below_drewN (Below.refl _ _) _)⟩⟩
    case round =>
      obtain ⟨i, rfl, hi, hkq, HT⟩ := hrel
      have hsn := HH.out.fit.sn
      obtain ⟨e0, e1, e2, e3, e4, e5, ef⟩ := cells6 HT.out.q
      by_cases hlt : i < p.safe.length
      · have i1 : (i : Int) < p.safe.length := by omega
        have HLT := Aside0.mk hlt
        clear hlt
        go_wp2_with fail
        go_at_call 15
        refine (read_off (HH.out.below HT.out.b) HPO.out i).mono ?_
        rintro e w7 ⟨rfl, rfl⟩
        go_wp2_with fail
        go_roundg (p.safe.length - (i + 1))
        case measure => have := hkq.out; have := HLT.out; omega
        case rel => exact ⟨i + 1, by go_num, by have := HLT.out; omega, ⟨rfl⟩, ⟨HT.out⟩⟩
      · have i1 : ¬ (i : Int) < p.safe.length := by omega
        clear hlt
        go_wp2_with fail
        go_ret
        exact ⟨rfl, HT.out.b⟩
end Go.Proofs.Ytcobkideokljfaa
