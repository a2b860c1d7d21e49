/- PlateSame: two plates are one, if their sectors are, as they are safe. -/
import Derived.Test.YtcobkideokljfaaPlateJ
import Derived.Laws.CopyRow
namespace Go.Proofs.Ytcobkideokljfaa
open Go.RowKit Go.Proofs.YtcobkideokljfaaW.PrintWords
set_option linter.unusedVariables false
set_option linter.unusedSimpArgs false
theorem same_long (A0 A1 : Option Addr) (c0 c1 : Nat) (l0 l1 : List Int) (n m : Int) (fl : Bool) (w : World) (h : 64 < l0.length ∨ 64 < l1.length) :
    Calls Try.prog 5 #[.slice A0 l0.length c0, .slice A1 l1.length c1, .int .u8 n, .int .u8 m, .bool fl] w fun e w' => e = .returned (.bool true) ∧ Below w.heap.size w w' := by
  by_cases h0 : 64 < l0.length
  · have h0' : (64 : Int) < (l0.length : Int) := by omega
    clear h
    go_enter Try.func5, Try.ntmps5
    go_wp2_with fail
    go_at_call 8
    refine (awake_c _).mono ?_
    rintro e w1 ⟨rfl, hb1⟩
    go_wp2_with fail
    go_at_call 8
    refine (awake_c _).mono ?_
    rintro e w2 ⟨rfl, hb2⟩
    go_wp2_with fail
    go_ret
    exact ⟨rfl, hb1.trans (hb2.mono hb1.size)⟩
  · have h1 : (64 : Int) < (l1.length : Int) := by omega
    have h0' : ¬ (64 : Int) < (l0.length : Int) := by omega
    clear h
    go_enter Try.func5, Try.ntmps5
    go_wp2_with fail
    go_at_call 8
    refine (awake_c _).mono ?_
    rintro e w1 ⟨rfl, hb1⟩
    go_wp2_with fail
    go_at_call 8
    refine (awake_c _).mono ?_
    rintro e w2 ⟨rfl, hb2⟩
    go_wp2_with fail
    go_ret
    exact ⟨rfl, hb1.trans (hb2.mono hb1.size)⟩

/-- Two plates of a law. -/
structure Two (w0 w : World) (c1 : Nat) (s1 v1 : Value) (p : St) (c2 : Nat) (s2 v2 : Value) (q : St) : Prop where
  a : Pl w0 w c1 s1 v1 p
  b : Pl w0 w c2 s2 v2 q
  d : ∀ k, Own c1 s1 v1 k → ¬ Own c2 s2 v2 k
theorem Two.stepA {w0 w w' : World} {c1 : Nat} {s1 v1 v1' : Value} {p p' : St} {c2 : Nat} {s2 v2 : Value} {q : St} (h : Two w0 w c1 s1 v1 p c2 s2 v2 q) (h1 : IsPlate w' c1 s1 v1' p') (f : Fr w w' (Own c1 s1 v1)) (ho : ∀ k, Own c1 s1 v1' k → Own c1 s1 v1 k ∨ w.heap.size ≤ k) : Two w0 w' c1 s1 v1' p' c2 s2 v2 q :=
  ⟨h.a.step h1 f ho, ⟨h.b.is.keep f (fun k hk hp => h.d k hp hk), (h.a.step h1 f ho).below, h.b.own⟩, fun k hk hq => (ho k hk).elim (fun h2 => h.d k h2 hq) (fun h2 => by have := h.b.is.lt hq; omega)⟩
theorem Two.swap {w0 w : World} {c1 : Nat} {s1 v1 : Value} {p : St} {c2 : Nat} {s2 v2 : Value} {q : St} (h : Two w0 w c1 s1 v1 p c2 s2 v2 q) : Two w0 w c2 s2 v2 q c1 s1 v1 p := ⟨h.b, h.a, fun k hk hp => h.d k hp hk⟩
theorem Two.by {w0 w w' : World} {c1 : Nat} {s1 v1 : Value} {p : St} {c2 : Nat} {s2 v2 : Value} {q : St} (h : Two w0 w c1 s1 v1 p c2 s2 v2 q) (hb : Below w.heap.size w w') : Two w0 w' c1 s1 v1 p c2 s2 v2 q := ⟨h.a.by hb, h.b.by hb, h.d⟩
theorem wp_copy_pad {ops : Array Oper} {rest : List Oper} {o : Oper} {a : Act} {w : World} {Q : Exit → Act → World → Prop} (hgd : o.guard = none) (d s : Operand) (ho : o.op = .call { callee := .builtin .copy, args := #[d, s], argTypes := #[22, 22] })
    (g : Nat) (A : Option Addr) (c : Nat) (bs : List Int) (hd : a.eval d = .slice (some ⟨g, 0, none⟩) 64 64) (hs : a.eval s = .slice A bs.length c) (t : TypeId) (hg : w.heap[g]? = some (.cells (U z64).toArray t (0, 0))) (hl : bs.length ≤ 64) (hr : Kd.C (Kd.int .u8) w A bs.length bs)
    (h : wpList Try.prog ops Q rest (a.put o.dst (goInt bs.length)) (w.setRow g (U (pad bs)).toArray)) : wpList Try.prog ops Q (o :: rest) a w := by
  by_cases h0 : bs.length = 0
  · obtain rfl : bs = [] := List.eq_nil_of_length_eq_zero h0
    refine wpList_copy_nothing hgd d s 22 22 ho 5 Try.underlying22 (by kernel_rfl) _ _ _ _ _ _ hd hs (by simp) ?_
    rw [show (U (pad [])).toArray = (U z64).toArray from rfl, setRow_self w g _ t (0, 0) hg] at h
    exact h
  · obtain ⟨ad, rfl, hc⟩ := src_of hr (by omega)
    refine wpList_copy_own hgd d s 22 22 ho 5 Try.underlying22 (by kernel_rfl) g 0 64 64 ad bs.length c hd hs (U z64).toArray t hg (U bs) (by rw [List.length_map]; exact (Nat.min_eq_left hl).symm) hc (by simp; omega) (fun u hu => by obtain ⟨y, _, rfl⟩ := List.mem_map.1 hu; rfl) ?_
    have e := splice_pad0 hl
    unfold splice at e
    rw [List.length_map]
    rw [List.length_map] at e
    rw [show (U z64).toArray.toList = U z64 from rfl, e]
    exact h
theorem same_zero {p q : St} {n m : Nat} (hp : p.safe = List.replicate (1 + n) z64) (hq : q.safe = List.replicate (1 + m) z64) : sameB p q = (n == m) := by
  by_cases h : n = m
  · subst h
    rw [sameB_all (by rw [hp, hq]) (fun k _ => by unfold eqS; rw [hp, hq]; simp), beq_self_eq_true]
  · rw [sameB_ne (by rw [hp, hq]; simp; omega), beq_eq_false_iff_ne.mpr h]
theorem same_head {p q : St} {n m : Nat} {a b : List Int} (hp : p.safe = drySafe (List.replicate (1 + n) z64) ([] ++ [(((0 : Nat) : Int), a)])) (hq : q.safe = drySafe (List.replicate (1 + m) z64) ([] ++ [(((0 : Nat) : Int), b)])) : sameB p q = (n == m && ((strOfNums a).toList == (strOfNums b).toList)) := by
  have e1 : p.safe = a :: List.replicate n z64 := by rw [hp, Nat.add_comm]; simp [drySafe, List.replicate_succ]
  have e2 : q.safe = b :: List.replicate m z64 := by rw [hq, Nat.add_comm]; simp [drySafe, List.replicate_succ]
  by_cases h : n = m
  · subst h
    rw [beq_self_eq_true, Bool.true_and]
    cases hE : ((strOfNums a).toList == (strOfNums b).toList)
    · exact sameB_not (k := 0) (by rw [e1]; simp) (by unfold eqS; rw [e1, e2]; exact hE)
    · refine sameB_all (by rw [e1, e2]; simp) (fun k hk => ?_)
      unfold eqS
      rw [e1, e2]
      cases k with
      | zero => exact hE
      | succ k => simp
  · rw [sameB_ne (by rw [e1, e2]; simp; exact h), beq_eq_false_iff_ne.mpr h, Bool.false_and]
theorem sameB_self (p : St) : sameB p p = true := sameB_all rfl (fun k _ => by unfold eqS; simp)
set_option maxHeartbeats 8000000 in
theorem same_short (A0 A1 : Option Addr) (c0 c1 : Nat) (l0 l1 : List Int) (n m : Int) (fl : Bool) (w : World) (g0 : l0.length ≤ 64) (g1 : l1.length ≤ 64) (hn : 0 ≤ n ∧ n < 256) (hm : 0 ≤ m ∧ m < 256)
    (hr0 : Kd.C (Kd.int .u8) w A0 l0.length l0) (hr1 : Kd.C (Kd.int .u8) w A1 l1.length l1) :
    Calls Try.prog 5 #[.slice A0 l0.length c0, .slice A1 l1.length c1, .int .u8 n, .int .u8 m, .bool fl] w fun e w' => e = .returned (.bool true) ∧ Below w.heap.size w w' := by
  have HR0 := Aside0.mk hr0
  have HR1 := Aside0.mk hr1
  have HG0 := Aside0.mk g0
  have HG1 := Aside0.mk g1
  have h0' : ¬ (64 : Int) < (l0.length : Int) := by omega
  have h1' : ¬ (64 : Int) < (l1.length : Int) := by omega
  obtain ⟨n1, hn1, hn3⟩ : ∃ n1 : Nat, n.tmod 3 = (n1 : Int) ∧ n1 < 3 := ⟨(n.tmod 3).toNat, by have := Int.tmod_lt_of_pos n (show (0 : Int) < 3 by omega); have := Int.tmod_nonneg 3 hn.1; omega, by have := Int.tmod_lt_of_pos n (show (0 : Int) < 3 by omega); have := Int.tmod_nonneg 3 hn.1; omega⟩
  obtain ⟨m1, hm1, hm3⟩ : ∃ m1 : Nat, m.tmod 3 = (m1 : Int) ∧ m1 < 3 := ⟨(m.tmod 3).toNat, by have := Int.tmod_lt_of_pos m (show (0 : Int) < 3 by omega); have := Int.tmod_nonneg 3 hm.1; omega, by have := Int.tmod_lt_of_pos m (show (0 : Int) < 3 by omega); have := Int.tmod_nonneg 3 hm.1; omega⟩
  have hw1 : wrap64 (1 + (n1 : Int)) = ((1 + n1 : Nat) : Int) := by unfold wrap64; omega
  have hw2 : wrap64 (1 + (m1 : Int)) = ((1 + m1 : Nat) : Int) := by unfold wrap64; omega
  have hw3 : wrap64 (n1 : Int) = (n1 : Int) := by unfold wrap64; omega
  have hw4 : wrap64 (m1 : Int) = (m1 : Int) := by unfold wrap64; omega
  clear hr0 hr1 g0 g1 hn hm
  go_enter Try.func5, Try.ntmps5
  go_wp2_with fail
  go_at_call 8
  refine (awake_c _).mono ?_
  rintro e w0 ⟨rfl, hb0⟩
  have HB0 := Aside0.mk hb0
  clear hb0
  go_wp2_with fail
  go_at_call 9
  refine (new_c (1 + (n1 : Int)) (1 + n1) (by unfold mx; rw [if_neg (by omega)]; omega) (by omega) _).mono ?_
  rintro e w1 ⟨c, rfl, hb, sv, wv, h, ho⟩
  have H1 : Aside0 (Pl w w1 c sv wv ⟨List.replicate (1 + n1) z64, [], -1, false, 0, 0⟩) := ⟨⟨h, HB0.out.trans (hb.mono HB0.out.size), fun k hk => Nat.le_trans HB0.out.size (ho k hk)⟩⟩
  clear h hb ho
  go_wp2_with fail
  go_at_call 9
  refine (new_c (1 + (m1 : Int)) (1 + m1) (by unfold mx; rw [if_neg (by omega)]; omega) (by omega) _).mono ?_
  rintro e w2 ⟨d, rfl, hb, tv, uv, h, ho⟩
  have H2 : Aside0 (Two w w2 c sv wv ⟨List.replicate (1 + n1) z64, [], -1, false, 0, 0⟩ d tv uv ⟨List.replicate (1 + m1) z64, [], -1, false, 0, 0⟩) := ⟨⟨H1.out.by hb, ⟨h, H1.out.below.trans (hb.mono H1.out.below.size), fun k hk => Nat.le_trans H1.out.below.size (ho k hk)⟩, fun k hk hq => by have := H1.out.is.lt hk; have := ho k hq; omega⟩⟩
  clear h hb ho H1
  go_wp2_with fail
  go_at_call 10
  refine (write_c H2.out.a.is 0 (by simp; omega) l0 HG0.out (by simp) A0 c0 (Kd.C_below HR0.out H2.out.a.below)).mono ?_
  rintro e w3 ⟨rfl, wv3, h3, f3, o3⟩
  rw [write_free] at h3 ⊢
  have H3 := Aside0.mk (H2.out.stepA h3 f3 o3)
  clear h3 f3 o3 H2
  go_wp2_with fail
  go_at_call 10
  refine (write_c H3.out.b.is 0 (by simp; omega) l1 HG1.out (by simp) A1 c1 (Kd.C_below HR1.out H3.out.b.below)).mono ?_
  rintro e w4 ⟨rfl, uv4, h4, f4, o4⟩
  rw [write_free] at h4 ⊢
  have H4 := Aside0.mk (H3.out.swap.stepA h4 f4 o4).swap
  clear h4 f4 o4 H3
  obtain ⟨iB, hiB, hzB, hsB, hbB⟩ := info_parts infoB
  cases fl
  · have HBW := Aside0.mk H4.out.a.below
    go_wp2_with (first
      | ((with_reducible refine gate_dst (N := 49) rfl ?_)
         refine wpList_make_row _ rfl (.const (.int .i64 64)) (.const (.int .i64 64)) 22 rfl 5 iB (.int .u8 0) Try.underlying22 hiB hzB hsB rfl .i64 .i64 64 rfl rfl (by rw [hbB]; omega) (by omega) ?_
         rw [made64]
         obtain ⟨V1, hV⟩ : ∃ V, V = w4.alloc (.cells (U z64).toArray 5) := ⟨_, rfl⟩
         obtain ⟨gx, hgw⟩ : ∃ gw, gw = w4.heap.size := ⟨_, rfl⟩
         rw [← hV, ← hgw]
         have K1 : Aside0 (Below w4.heap.size w4 V1 ∧ V1.heap[gx]? = some (.cells (U z64).toArray 5 (0, 0)) ∧ w4.heap.size ≤ gx) := ⟨by rw [hV]; exact below_alloc (Below.refl _ _) _, by rw [hV, hgw]; exact blk_new _ _, by rw [hgw]; exact Nat.le_refl _⟩
         clear hV hgw)
      | ((with_reducible refine gate_dst (N := 50) rfl ?_)
         refine wpList_make_row _ rfl (.const (.int .i64 64)) (.const (.int .i64 64)) 22 rfl 5 iB (.int .u8 0) Try.underlying22 hiB hzB hsB rfl .i64 .i64 64 rfl rfl (by rw [hbB]; omega) (by omega) ?_
         rw [made64]
         obtain ⟨V2, hV⟩ : ∃ V, V = V1.alloc (.cells (U z64).toArray 5) := ⟨_, rfl⟩
         obtain ⟨gy, hgw⟩ : ∃ gw, gw = V1.heap.size := ⟨_, rfl⟩
         rw [← hV, ← hgw]
         have K2 : Aside0 (Below w4.heap.size w4 V2 ∧ V2.heap[gx]? = some (.cells (U z64).toArray 5 (0, 0)) ∧ V2.heap[gy]? = some (.cells (U z64).toArray 5 (0, 0)) ∧ gx < gy) := ⟨by rw [hV]; exact below_alloc K1.out.1 _, by rw [hV]; exact blk_alloc K1.out.2.1 _, by rw [hV, hgw]; exact blk_new _ _, by rw [hgw]; exact blk_lt K1.out.2.1⟩
         clear hV hgw)
      | (refine wp_copy_pad rfl (.tmp 51) (.tmp 52) rfl gx A0 c0 l0 rfl rfl 5 K2.out.2.1 HG0.out (Kd.C_below HR0.out (HBW.out.trans (K2.out.1.mono HBW.out.size))) ?_
         obtain ⟨V3, hV⟩ : ∃ V3, V3 = V2.setRow gx (U (pad l0)).toArray := ⟨_, rfl⟩
         have K3 : Aside0 (Below w4.heap.size w4 V3 ∧ V3.heap[gx]? = some (.cells (U (pad l0)).toArray 5 (0, 0)) ∧ V3.heap[gy]? = some (.cells (U z64).toArray 5 (0, 0))) := ⟨by rw [hV]; exact below_setRow K2.out.1 K1.out.2.2 _, by rw [hV]; exact blk_row K2.out.2.1, by rw [hV, setRow_other _ _ _ _ (by have := K2.out.2.2.2; omega)]; exact K2.out.2.2.1⟩
         rw [← hV]
         clear hV)
      | (refine wp_copy_pad rfl (.tmp 54) (.tmp 55) rfl gy A1 c1 l1 rfl rfl 5 K3.out.2.2 HG1.out (Kd.C_below HR1.out (HBW.out.trans (K3.out.1.mono HBW.out.size))) ?_
         obtain ⟨V4, hV⟩ : ∃ V4, V4 = V3.setRow gy (U (pad l1)).toArray := ⟨_, rfl⟩
         have K4 : Aside0 (Below w4.heap.size w4 V4 ∧ V4.heap[gx]? = some (.cells (U (pad l0)).toArray 5 (0, 0)) ∧ V4.heap[gy]? = some (.cells (U (pad l1)).toArray 5 (0, 0))) := ⟨by rw [hV]; exact below_setRow K3.out.1 (by have := K1.out.2.2; have := K2.out.2.2.2; omega) _, by rw [hV, setRow_other _ _ _ _ (by have := K2.out.2.2.2; omega)]; exact K3.out.2.1, by rw [hV]; exact blk_row K3.out.2.2⟩
         rw [← hV]
         clear hV))
    go_at_call 18
    have HV := Aside0.mk (H4.out.by K4.out.1)
    clear K1 K2 K3
    clear V1 V2 V3
    refine (same_c HV.out.a.is HV.out.b.is).mono ?_
    rintro e w9 ⟨rfl, hb9⟩
    have H9 := Aside0.mk (HV.out.by hb9)
    have hcx := Kd.C_string (P := Try.prog) (c := 64) Try.underlying22 Try.underlying5 Try.underlying9 (sec_C (blk_below K4.out.2.1 hb9) (pad_len HG0.out))
    have hcy := Kd.C_string (P := Try.prog) (c := 64) Try.underlying22 Try.underlying5 Try.underlying9 (sec_C (blk_below K4.out.2.2 hb9) (pad_len HG1.out))
    rw [pad_len HG0.out] at hcx
    rw [pad_len HG1.out] at hcy
    clear hb9 HV K4
    rw [same_zero (by rfl) (by rfl)]
    by_cases hnm : n1 = m1
    · subst hnm
      rw [beq_self_eq_true]
      go_wp2_with fail
      go_at_call 18
      refine (same_c H9.out.a.is H9.out.a.is).mono ?_
      rintro e w10 ⟨rfl, hb10⟩
      rw [sameB_self]
      go_wp2_with fail
      go_ret
      exact ⟨rfl, H9.out.a.below.trans (hb10.mono H9.out.a.below.size)⟩
    · have hi : ((n1 : Int) == (m1 : Int)) = false := beq_eq_false_iff_ne.mpr (by omega)
      rw [beq_eq_false_iff_ne.mpr hnm]
      go_wp2_with fail
      go_at_call 18
      refine (same_c H9.out.a.is H9.out.a.is).mono ?_
      rintro e w10 ⟨rfl, hb10⟩
      rw [sameB_self]
      go_wp2_with fail
      go_ret
      exact ⟨rfl, H9.out.a.below.trans (hb10.mono H9.out.a.below.size)⟩
  · go_wp2_with fail
    go_at_call 11
    refine (flush_c H4.out.a.is).mono ?_
    rintro e w5 ⟨rfl, ⟨wv5, h5, o5⟩, f5⟩
    rw [flush_free] at h5 ⊢
    have H5 := Aside0.mk (H4.out.stepA h5 f5 (fun k hk => .inl (o5 k hk)))
    clear h5 f5 o5 H4
    go_wp2_with fail
    go_at_call 11
    refine (flush_c H5.out.b.is).mono ?_
    rintro e w6 ⟨rfl, ⟨uv6, h6, o6⟩, f6⟩
    rw [flush_free] at h6 ⊢
    have H6 := Aside0.mk (H5.out.swap.stepA h6 f6 (fun k hk => .inl (o6 k hk))).swap
    clear h6 f6 o6 H5
    have HBW := Aside0.mk H6.out.a.below
    go_wp2_with (first
      | ((with_reducible refine gate_dst (N := 49) rfl ?_)
         refine wpList_make_row _ rfl (.const (.int .i64 64)) (.const (.int .i64 64)) 22 rfl 5 iB (.int .u8 0) Try.underlying22 hiB hzB hsB rfl .i64 .i64 64 rfl rfl (by rw [hbB]; omega) (by omega) ?_
         rw [made64]
         obtain ⟨V1, hV⟩ : ∃ V, V = w6.alloc (.cells (U z64).toArray 5) := ⟨_, rfl⟩
         obtain ⟨gx, hgw⟩ : ∃ gw, gw = w6.heap.size := ⟨_, rfl⟩
         rw [← hV, ← hgw]
         have K1 : Aside0 (Below w6.heap.size w6 V1 ∧ V1.heap[gx]? = some (.cells (U z64).toArray 5 (0, 0)) ∧ w6.heap.size ≤ gx) := ⟨by rw [hV]; exact below_alloc (Below.refl _ _) _, by rw [hV, hgw]; exact blk_new _ _, by rw [hgw]; exact Nat.le_refl _⟩
         clear hV hgw)
      | ((with_reducible refine gate_dst (N := 50) rfl ?_)
         refine wpList_make_row _ rfl (.const (.int .i64 64)) (.const (.int .i64 64)) 22 rfl 5 iB (.int .u8 0) Try.underlying22 hiB hzB hsB rfl .i64 .i64 64 rfl rfl (by rw [hbB]; omega) (by omega) ?_
         rw [made64]
         obtain ⟨V2, hV⟩ : ∃ V, V = V1.alloc (.cells (U z64).toArray 5) := ⟨_, rfl⟩
         obtain ⟨gy, hgw⟩ : ∃ gw, gw = V1.heap.size := ⟨_, rfl⟩
         rw [← hV, ← hgw]
         have K2 : Aside0 (Below w6.heap.size w6 V2 ∧ V2.heap[gx]? = some (.cells (U z64).toArray 5 (0, 0)) ∧ V2.heap[gy]? = some (.cells (U z64).toArray 5 (0, 0)) ∧ gx < gy) := ⟨by rw [hV]; exact below_alloc K1.out.1 _, by rw [hV]; exact blk_alloc K1.out.2.1 _, by rw [hV, hgw]; exact blk_new _ _, by rw [hgw]; exact blk_lt K1.out.2.1⟩
         clear hV hgw)
      | (refine wp_copy_pad rfl (.tmp 51) (.tmp 52) rfl gx A0 c0 l0 rfl rfl 5 K2.out.2.1 HG0.out (Kd.C_below HR0.out (HBW.out.trans (K2.out.1.mono HBW.out.size))) ?_
         obtain ⟨V3, hV⟩ : ∃ V3, V3 = V2.setRow gx (U (pad l0)).toArray := ⟨_, rfl⟩
         have K3 : Aside0 (Below w6.heap.size w6 V3 ∧ V3.heap[gx]? = some (.cells (U (pad l0)).toArray 5 (0, 0)) ∧ V3.heap[gy]? = some (.cells (U z64).toArray 5 (0, 0))) := ⟨by rw [hV]; exact below_setRow K2.out.1 K1.out.2.2 _, by rw [hV]; exact blk_row K2.out.2.1, by rw [hV, setRow_other _ _ _ _ (by have := K2.out.2.2.2; omega)]; exact K2.out.2.2.1⟩
         rw [← hV]
         clear hV)
      | (refine wp_copy_pad rfl (.tmp 54) (.tmp 55) rfl gy A1 c1 l1 rfl rfl 5 K3.out.2.2 HG1.out (Kd.C_below HR1.out (HBW.out.trans (K3.out.1.mono HBW.out.size))) ?_
         obtain ⟨V4, hV⟩ : ∃ V4, V4 = V3.setRow gy (U (pad l1)).toArray := ⟨_, rfl⟩
         have K4 : Aside0 (Below w6.heap.size w6 V4 ∧ V4.heap[gx]? = some (.cells (U (pad l0)).toArray 5 (0, 0)) ∧ V4.heap[gy]? = some (.cells (U (pad l1)).toArray 5 (0, 0))) := ⟨by rw [hV]; exact below_setRow K3.out.1 (by have := K1.out.2.2; have := K2.out.2.2.2; omega) _, by rw [hV, setRow_other _ _ _ _ (by have := K2.out.2.2.2; omega)]; exact K3.out.2.1, by rw [hV]; exact blk_row K3.out.2.2⟩
         rw [← hV]
         clear hV))
    go_at_call 18
    have HV := Aside0.mk (H6.out.by K4.out.1)
    clear K1 K2 K3
    clear V1 V2 V3
    refine (same_c HV.out.a.is HV.out.b.is).mono ?_
    rintro e w9 ⟨rfl, hb9⟩
    have H9 := Aside0.mk (HV.out.by hb9)
    have hcx := Kd.C_string (P := Try.prog) (c := 64) Try.underlying22 Try.underlying5 Try.underlying9 (sec_C (blk_below K4.out.2.1 hb9) (pad_len HG0.out))
    have hcy := Kd.C_string (P := Try.prog) (c := 64) Try.underlying22 Try.underlying5 Try.underlying9 (sec_C (blk_below K4.out.2.2 hb9) (pad_len HG1.out))
    rw [pad_len HG0.out] at hcx
    rw [pad_len HG1.out] at hcy
    clear hb9 HV K4
    rw [same_head (by rfl) (by rfl)]
    by_cases hnm : n1 = m1
    · subst hnm
      rw [beq_self_eq_true, Bool.true_and]
      cases hE : ((strOfNums (pad l0)).toList == (strOfNums (pad l1)).toList)
      · go_wp2_with fail
        go_at_call 18
        refine (same_c H9.out.a.is H9.out.a.is).mono ?_
        rintro e w10 ⟨rfl, hb10⟩
        rw [sameB_self]
        go_wp2_with fail
        go_ret
        exact ⟨rfl, H9.out.a.below.trans (hb10.mono H9.out.a.below.size)⟩
      · go_wp2_with fail
        go_at_call 18
        refine (same_c H9.out.a.is H9.out.a.is).mono ?_
        rintro e w10 ⟨rfl, hb10⟩
        rw [sameB_self]
        go_wp2_with fail
        go_ret
        exact ⟨rfl, H9.out.a.below.trans (hb10.mono H9.out.a.below.size)⟩
    · have hi : ((n1 : Int) == (m1 : Int)) = false := beq_eq_false_iff_ne.mpr (by omega)
      rw [beq_eq_false_iff_ne.mpr hnm, Bool.false_and]
      go_wp2_with fail
      go_at_call 18
      refine (same_c H9.out.a.is H9.out.a.is).mono ?_
      rintro e w10 ⟨rfl, hb10⟩
      rw [sameB_self]
      go_wp2_with fail
      go_ret
      exact ⟨rfl, H9.out.a.below.trans (hb10.mono H9.out.a.below.size)⟩
theorem same_any (a0 a1 : Option Addr) (len0 cap0 len1 cap1 : Nat) (z0 z1 : List Int) (n m : Int) (fl : Bool) (w : World) (h2 : (Lit.int .u8 n).wf = true) (h3 : (Lit.int .u8 m).wf = true)
    (w0 : (a0 = none ∧ len0 = 0 ∧ cap0 = 0 ∧ z0 = []) ∨ ∃ x, a0 = some x ∧ len0 ≤ cap0 ∧ cap0 ≤ maxLen ∧ z0.length = cap0 ∧ (∀ i, i < z0.length → w.cell? (x.add i) = some (.int .u8 (z0.getD i 0))) ∧ ∀ n ∈ z0, (Lit.int .u8 n).wf = true)
    (w1 : (a1 = none ∧ len1 = 0 ∧ cap1 = 0 ∧ z1 = []) ∨ ∃ x, a1 = some x ∧ len1 ≤ cap1 ∧ cap1 ≤ maxLen ∧ z1.length = cap1 ∧ (∀ i, i < z1.length → w.cell? (x.add i) = some (.int .u8 (z1.getD i 0))) ∧ ∀ n ∈ z1, (Lit.int .u8 n).wf = true) :
    Calls Try.prog 5 #[.slice a0 len0 cap0, .slice a1 len1 cap1, .int .u8 n, .int .u8 m, .bool fl] w fun e w' => e = .returned (.bool true) ∧ Below w.heap.size w w' := by
  obtain ⟨l0, rfl, hr0, _⟩ := bytes_le w0
  obtain ⟨l1, rfl, hr1, _⟩ := bytes_le w1
  have b2 := bounds_u8 h2
  have b3 := bounds_u8 h3
  by_cases hl : 64 < l0.length ∨ 64 < l1.length
  · exact same_long a0 a1 cap0 cap1 l0 l1 n m fl w hl
  · exact same_short a0 a1 cap0 cap1 l0 l1 n m fl w (by omega) (by omega) (by omega) (by omega) hr0 hr1
end Go.Proofs.Ytcobkideokljfaa
