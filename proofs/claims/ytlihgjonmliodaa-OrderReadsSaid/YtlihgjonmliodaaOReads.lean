/- OrderReads: any bytes: what they are read as may be, and has just these bytes. -/
import Derived.Test.YtlihgjonmliodaaOrdA
import Derived.Deep.LoopGhost
import Derived.LoopTactic
import Derived.BigQuiet
import Derived.Deep.RegionLaw
import Derived.Laws.Rows
namespace Go.Proofs.Ytlihgjonmliodaa
open Go.RowKit Go.Proofs.Ytlihgjonmliodaa.PA Go.Proofs.YtlihgjonmliodaaW.PrintWords Go.Proofs.YtlihgjonmliodaaW.PrintLast Go.Proofs.YtlihgjonmliodaaW.PrintMore
open Go.Proofs.Ytlihgjonmliodaa.Pure (Near Byt packsI packI near_f encode_ev decode_any lawright_near rights awake_ev packsI_len packsI_byt byt_of)
set_option linter.unusedVariables false
set_option linter.unusedSimpArgs false
theorem row_at {w : World} {base : Nat} {ok : Nat → Prop} {v : Value} {r : List Int} (h : Kd.R (Kd.int .u8) 5 w base ok v r) (k : Nat) (hk : k < r.length) :
    ∃ g c, v = .slice (some ⟨g, 0, none⟩) r.length c ∧ base ≤ g ∧ r.length ≤ c ∧ w.cell? ⟨g, k, none⟩ = some (.int .u8 (r.getD k 0)) ∧ w.frozen? ⟨g, k, none⟩ = false := by
  obtain ⟨h0, (⟨rfl, h1⟩ | ⟨g, cap, cur, rfl, h1, h2, h3, h4, h5, h6⟩)⟩ := Kd.own_of_R h
  · omega
  · have := Kd.R_celln (0 : Int) h (k : Int) (by omega) (by omega)
    refine ⟨g, cap, rfl, h1, (Kd.R_reads' h).2.1, ?_, this.2⟩
    have h8 := this.1
    simpa [rdOf] using h8
theorem one_row (w : World) (x : Int) : Kd.C (Kd.int .u8) (w.alloc (.cells #[.int .u8 x] 5)) (some ⟨w.heap.size, 0, none⟩) 1 [x] :=
  Kd.C_of_reads (d := (0 : Int)) (enc := Value.int .u8) (h1 := fun _ => rfl) ⟨rfl, by decide, fun _ => ⟨_, rfl, fun j hj => by
    obtain rfl : j = 0 := by omega
    simp [Addr.add]⟩⟩
theorem index_of {a : Int} {len : Nat} (h : 0 ≤ a ∧ a < 256) (hl : 0 < len) : ∃ k : Nat, (wrap64 a).tmod (len : Int) = (k : Int) ∧ k < len := by
  have e : wrap64 a = a := by unfold wrap64; omega
  have h0 := Int.emod_nonneg a (show (len : Int) ≠ 0 by omega)
  have h1 := Int.emod_lt_of_pos a (show 0 < (len : Int) by omega)
  exact ⟨(a % (len : Int)).toNat, by rw [e, Int.tmod_eq_emod_of_nonneg h.1, Int.toNat_of_nonneg h0], by omega⟩
theorem near_len {a0 a1 a2 a3 a4 a5 a6 a7 : Int} {a8 a9 : Bool} {b0 b1 b2 b3 b4 b5 : Int} {l : List Int} (h : Near a0 a1 a2 a3 a4 a5 a6 a7 a8 a9 b0 b1 b2 b3 b4 b5 l) : 0 < (packsI l).length ∧ (packsI l).length ≤ 200 := by
  have h1 := packsI_len h.i64.1
  have h2 := h.i64.2
  have key : ∀ (x : Int) (l : List Int), 0 < (packsI (x :: l)).length := by
    intro x l
    rw [Pure.packsI_cons, List.length_append]
    have := Pure.packI_pos x
    omega
  refine ⟨?_, by omega⟩
  cases h <;> exact key _ _
theorem xor_byte {x t : Int} (hx : 0 ≤ x ∧ x < 256) (ht : 0 ≤ t ∧ t < 256) : 0 ≤ Go.bits .xor .u8 x t ∧ Go.bits .xor .u8 x t < 256 := by
  obtain ⟨X, rfl⟩ := Int.eq_ofNat_of_zero_le hx.1
  obtain ⟨Y, rfl⟩ := Int.eq_ofNat_of_zero_le ht.1
  have hlt : X ^^^ Y < 256 := Nat.xor_lt_two_pow (n := 8) (by omega) (by omega)
  have h : Go.bits .xor .u8 (X : Int) (Y : Int) = ((X ^^^ Y : Nat) : Int) := u8_xor_nat X Y (by omega) (by omega)
  rw [h]
  omega
theorem byt_app {l : List Int} {x : Int} (h : Byt l) (hx : 0 ≤ x ∧ x < 256) : Byt (l ++ [x]) := fun z hz => by
  rcases List.mem_append.1 hz with h1 | h1
  · exact h z h1
  · simp at h1; subst h1; exact hx
theorem blk_drew {w : World} {g : Nat} {o : Obj} (h : w.heap[g]? = some o) : w.drew.heap[g]? = some o := h
theorem ex_row {P : Program} {op : Oper} {a : Act} {w : World} (ty : TypeId) (x : Operand) (ho : op.op = .load ty x) (g : Nat) (hx : a.eval x = .pointer (some ⟨g, 0, none⟩)) (t : TypeId) (cs : Array Value) (fr : Nat × Nat) (d : TypeDesc) (hg : w.heap[g]? = some (.cells cs t fr))
    (hu : P.underlying ty = some d) (hd : (match d with | .struct _ | .array _ _ => true | _ => false) = true) (hi : (P.info? ty).map (·.size) = some cs.size) : (execOp a.eval op).run P w = .ok (.value (.agg cs)) w := by
  unfold execOp
  simp only [ho, hx, Instr.loadAt, Instr.sureAddr, Sem.run_bind, Sem.run_pure, Result.andThen_ok, run_loadVar_row w g t ty cs fr d hg hu hd hi]
/-- The four rows that are looked at, in the slice's block. -/
structure Four (w0 w : World) (gs : Nat) (A0 A1 A2 A3 : Option Addr) (c0 c1 c2 c3 : Nat) (l0 l1 l2 l3 : List Int) : Prop where
  b : Below w0.heap.size w0 w
  s : w.heap[gs]? = some (.cells #[.slice A0 l0.length c0, .slice A1 l1.length c1, .slice A2 l2.length c2, .slice A3 l3.length c3] 34 (0, 0))
  r0 : Kd.C (Kd.int .u8) w A0 l0.length l0
  r1 : Kd.C (Kd.int .u8) w A1 l1.length l1
  r2 : Kd.C (Kd.int .u8) w A2 l2.length l2
  r3 : Kd.C (Kd.int .u8) w A3 l3.length l3
theorem Four.below {w0 w w' : World} {gs : Nat} {A0 A1 A2 A3 : Option Addr} {c0 c1 c2 c3 : Nat} {l0 l1 l2 l3 : List Int} (h : Four w0 w gs A0 A1 A2 A3 c0 c1 c2 c3 l0 l1 l2 l3) (hb : Below w.heap.size w w') : Four w0 w' gs A0 A1 A2 A3 c0 c1 c2 c3 l0 l1 l2 l3 :=
  ⟨h.b.trans (hb.mono h.b.size), blk_below h.s hb, Kd.C_below h.r0 hb, Kd.C_below h.r1 hb, Kd.C_below h.r2 hb, Kd.C_below h.r3 hb⟩
theorem Four.drew {w0 w : World} {gs : Nat} {A0 A1 A2 A3 : Option Addr} {c0 c1 c2 c3 : Nat} {l0 l1 l2 l3 : List Int} (h : Four w0 w gs A0 A1 A2 A3 c0 c1 c2 c3 l0 l1 l2 l3) : Four w0 w.drew gs A0 A1 A2 A3 c0 c1 c2 c3 l0 l1 l2 l3 := ⟨below_drew h.b, h.s, Kd.C_drew h.r0, Kd.C_drew h.r1, Kd.C_drew h.r2, Kd.C_drew h.r3⟩
theorem Four.drewN {w0 w : World} {gs : Nat} {A0 A1 A2 A3 : Option Addr} {c0 c1 c2 c3 : Nat} {l0 l1 l2 l3 : List Int} (h : Four w0 w gs A0 A1 A2 A3 c0 c1 c2 c3 l0 l1 l2 l3) (m : Nat) : Four w0 (w.drewN m) gs A0 A1 A2 A3 c0 c1 c2 c3 l0 l1 l2 l3 := ⟨pw_below_drewN h.b m, h.s, Kd.C_drewN h.r0 m, Kd.C_drewN h.r1 m, Kd.C_drewN h.r2 m, Kd.C_drewN h.r3 m⟩
/-- What is known of a row, beside its reading. -/
structure Okay (c : Nat) (l : List Int) : Prop where
  cap : l.length ≤ c
  byt : Byt l
  len : l.length ≤ 900
theorem Four.at {w0 w : World} {gs : Nat} {A0 A1 A2 A3 : Option Addr} {c0 c1 c2 c3 : Nat} {l0 l1 l2 l3 : List Int} (h : Four w0 w gs A0 A1 A2 A3 c0 c1 c2 c3 l0 l1 l2 l3) (i : Nat) (hi : i < 4) (k0 : Okay c0 l0) (k1 : Okay c1 l1) (k2 : Okay c2 l2) (k3 : Okay c3 l3) :
    ∃ A X c, w.cell? ⟨gs, i, none⟩ = some (.slice A X.length c) ∧ Kd.C (Kd.int .u8) w A X.length X ∧ Okay c X := by
  match i, hi with
  | 0, _ => exact ⟨A0, l0, c0, (blk_cell h.s 0).trans rfl, h.r0, k0⟩
  | 1, _ => exact ⟨A1, l1, c1, (blk_cell h.s 1).trans rfl, h.r1, k1⟩
  | 2, _ => exact ⟨A2, l2, c2, (blk_cell h.s 2).trans rfl, h.r2, k2⟩
  | 3, _ => exact ⟨A3, l3, c3, (blk_cell h.s 3).trans rfl, h.r3, k3⟩
set_option maxHeartbeats 4000000 in
set_option maxRecDepth 100000 in
theorem oreads_long (n0 n1 n2 n3 n4 n5 n6 n7 : Int) (n8 n9 : Bool) (m0 m1 m2 m3 m4 m5 : Int) (a2 a3 a4 : Int) (A0 : Option Addr) (c0 : Nat) (l0 : List Int) (w : World) (hg : 60 < l0.length) :
    Calls Try.prog 8 #[.slice A0 l0.length c0, .agg #[.int .u8 n0, .int .i64 n1, .int .i64 n2, .int .i64 n3, .int .i64 n4, .int .u8 n5, .int .i64 n6, .int .i64 n7, .bool n8, .bool n9, .int .u8 m0, .int .i64 m1, .int .i64 m2, .int .i64 m3, .int .i64 m4, .int .u8 m5], .int .u8 a2, .int .u8 a3, .int .u8 a4] w fun e w' => e = .returned (.bool true) ∧ Below w.heap.size w w' := by
  go_enter Try.func8, Try.ntmps8
  go_wp2_with fail
  go_at_call 10
  refine (awake_c _).mono ?_
  rintro e w1 ⟨rfl, hb⟩
  have HB1 := Aside0.mk ((below_alloc (Below.refl w.heap.size w) _).trans (hb.mono (by simp)))
  clear hb
  go_wp2_with fail
  go_at_call 10
  refine (awake_c _).mono ?_
  rintro e w2 ⟨rfl, hb⟩
  have HB2 := Aside0.mk (HB1.out.trans (hb.mono HB1.out.size))
  clear hb
  go_wp2_with fail
  go_ret
  exact ⟨rfl, HB2.out⟩
def oreads.T7 : Bool × List (List Nat × List Nat) := (true, [([], []), ([], []), ([], []), ([2], [2]), ([], []), ([4], [4]), ([3, 5, 3], [3, 5]), ([], []), ([], []), ([8], [8]), ([9], [9]), ([7, 10], [7, 10]), ([0, 1, 6, 11], [0, 1, 6, 11]), ([12], [12]), ([], [])])
def oreads.B7 : List Nat := [0, 0, 0, 4, 0, 16, 60, 0, 0, 256, 768, 1920, 4095, 8191, 0]
theorem oreads.tab7 : rtab .any (opsOf Try.f8 7) = oreads.T7 := by kernel_rfl
theorem oreads.bits7 : waitsOk oreads.T7.2 oreads.B7 = true := by kernel_rfl
def oreads.T11 : Bool × List (List Nat × List Nat) := (true, [([], []), ([0], [0]), ([1], [1]), ([2], [2]), ([3, 2, 2], [2, 3]), ([4, 2], [2, 4]), ([5, 4, 2], [2, 5]), ([6], [6]), ([7, 6, 6], [6, 7]), ([8, 6], [6, 8]), ([6], [6]), ([10, 6], [6, 10]), ([9, 11, 6], [6, 9, 11]), ([6, 12, 2], [2, 6, 12]), ([2, 13], [2, 13]), ([14, 8], [14]), ([15], [15]), ([16, 15], [15, 16]), ([17, 15, 15], [15, 17]), ([18], [18]), ([19, 18], [18, 19]), ([20, 18, 18], [18, 20]), ([21], [21]), ([21], [21]), ([22, 23, 21], [21, 22, 23]), ([21, 24, 18], [18, 21, 24]), ([18, 25, 15], [15, 18, 25]), ([15, 26], [15, 26])])
def oreads.B11 : List Nat := [0, 1, 3, 7, 15, 31, 63, 127, 255, 511, 127, 1151, 4095, 8191, 16383, 32767, 65535, 131071, 262143, 524287, 1048575, 2097151, 4194303, 4194303, 16777215, 33554431, 67108863, 134217727]
theorem oreads.tab11 : rtab .any (opsOf Try.f8 11) = oreads.T11 := by kernel_rfl
theorem oreads.bits11 : waitsOk oreads.T11.2 oreads.B11 = true := by kernel_rfl
set_option maxHeartbeats 8000000 in
set_option maxRecDepth 100000 in
theorem oreads_short (n0 n1 n2 n3 n4 n5 n6 n7 : Int) (n8 n9 : Bool) (m0 m1 m2 m3 m4 m5 : Int) (a2 a3 a4 : Int) (A0 : Option Addr) (c0 : Nat) (l0 : List Int) (w : World) (hw0 : (Lit.int .u8 n0).wf = true) (hw5 : (Lit.int .u8 n5).wf = true) (hz0 : (Lit.int .u8 m0).wf = true) (hz5 : (Lit.int .u8 m5).wf = true) (h2 : 0 ≤ a2 ∧ a2 < 256) (h3 : 0 ≤ a3 ∧ a3 < 256) (h4 : 0 ≤ a4 ∧ a4 < 256)
    (hr : Kd.C (Kd.int .u8) w A0 l0.length l0) (hc : l0.length ≤ c0) (hl : Byt l0) (hg : ¬ 60 < l0.length) :
    Calls Try.prog 8 #[.slice A0 l0.length c0, .agg #[.int .u8 n0, .int .i64 n1, .int .i64 n2, .int .i64 n3, .int .i64 n4, .int .u8 n5, .int .i64 n6, .int .i64 n7, .bool n8, .bool n9, .int .u8 m0, .int .i64 m1, .int .i64 m2, .int .i64 m3, .int .i64 m4, .int .u8 m5], .int .u8 a2, .int .u8 a3, .int .u8 a4] w fun e w' => e = .returned (.bool true) ∧ Below w.heap.size w w' := by
  have HR := Aside0.mk hr
  have HC : Aside0 (Okay c0 l0) := ⟨⟨hc, hl, by omega⟩⟩
  have H2 := Aside0.mk h2
  have H3 := Aside0.mk h3
  have H4 := Aside0.mk h4
  have HW := Aside0.mk (And.intro hw0 (And.intro hw5 (And.intro hz0 hz5)))
  clear hr hc hl h2 h3 h4 hw0 hw5 hz0 hz5
  go_enter Try.func8, Try.ntmps8
  go_wp2_with fail
  go_at_call 10
  refine (awake_c _).mono ?_
  rintro e w1 ⟨rfl, hb⟩
  have HB1 := Aside0.mk ((below_alloc (Below.refl w.heap.size w) _).trans (hb.mono (by simp)))
  have HN1 := Aside0.mk (blk_below (blk_new w (.cells #[.int .u8 n0, .int .i64 n1, .int .i64 n2, .int .i64 n3, .int .i64 n4, .int .u8 n5, .int .i64 n6, .int .i64 n7, .bool n8, .bool n9, .int .u8 m0, .int .i64 m1, .int .i64 m2, .int .i64 m3, .int .i64 m4, .int .u8 m5] 27)) hb)
  clear hb
  go_wp2_with (with_reducible refine wpList_load_row rfl 27 (.tmp 6) rfl w.heap.size rfl 27 #[.int .u8 n0, .int .i64 n1, .int .i64 n2, .int .i64 n3, .int .i64 n4, .int .u8 n5, .int .i64 n6, .int .i64 n7, .bool n8, .bool n9, .int .u8 m0, .int .i64 m1, .int .i64 m2, .int .i64 m3, .int .i64 m4, .int .u8 m5] (0, 0) _ HN1.out Try.underlying27 rfl rfl ?_)
  go_at_call 9
  refine (near_c _ _ _ _ _ _ _ _ _ _ _ _ _ _ _ _ _ HW.out.1 HW.out.2.1 HW.out.2.2.1 HW.out.2.2.2).mono ?_
  rintro r w2 ⟨x0, x1, x2, x3, x4, x5, x6, x7, x8, x9, y0, y1, y2, y3, y4, y5, lst, rfl, hN, hb⟩
  have HN := Aside0.mk hN
  have HB2 := Aside0.mk (HB1.out.trans (hb.mono HB1.out.size))
  clear hb hN HN1 HB1
  clear w1
  go_wp2_with fail
  go_at_call 15
  refine (encode_c w2 HN.out rfl).mono ?_
  rintro r w3 ⟨q, rfl, hq, hb⟩
  obtain ⟨s, hs⟩ : ∃ s, s = packsI lst := ⟨_, rfl⟩
  rw [← hs] at hq
  have hsl : 0 < s.length ∧ s.length ≤ 200 := by
    rw [hs]
    exact near_len HN.out
  have HSB : Aside0 (Byt s) := ⟨by rw [hs]; exact packsI_byt _⟩
  have HB3 := Aside0.mk (HB2.out.trans (hb.mono HB2.out.size))
  have HQ3 := Aside0.mk (Kd.R_lower hq HB2.out.size)
  clear hs hq hb HB2
  clear w2
  obtain ⟨hs0, hs200⟩ := hsl
  have hsz : ((s.length : Int) == 0) = false := beq_eq_false_iff_ne.mpr (by omega)
  obtain ⟨k, hk, hks⟩ := index_of (len := s.length) H2.out hs0
  obtain ⟨gt, ct, et, hgt, hct, htc, htf⟩ := row_at HQ3.out k hks
  subst et
  obtain ⟨xk, hxk⟩ : ∃ x, x = s.getD k 0 := ⟨_, rfl⟩
  have hxB : 0 ≤ xk ∧ xk < 256 := by
    rw [hxk, List.getD_eq_getElem?_getD, List.getElem?_eq_getElem hks]
    exact HSB.out _ (List.getElem_mem hks)
  rw [← hxk] at htc
  have HXB := Aside0.mk hxB
  clear hxk hxB
  go_upto_region 7 with fail
  obtain ⟨y, hy⟩ : ∃ y, y = Go.bits .xor .u8 xk a3 := ⟨_, rfl⟩
  have hyB : 0 ≤ y ∧ y < 256 := by rw [hy]; exact xor_byte HXB.out H3.out
  rw [← hy]
  obtain ⟨T, hT⟩ : ∃ T, T = s.set k y := ⟨_, rfl⟩
  have hTl : T.length = s.length := by rw [hT, List.length_set]
  have HTB : Aside0 (Byt T) := ⟨fun z hz => by
    rw [hT] at hz
    rcases List.mem_or_eq_of_mem_set hz with hz | rfl
    · exact HSB.out z hz
    · exact hyB⟩
  obtain ⟨W, hW⟩ : ∃ W, W = w3.setCell ⟨gt, k, none⟩ (.int .u8 y) := ⟨_, rfl⟩
  have HT4 : Aside0 (Kd.R (Kd.int .u8) 5 W w.heap.size (fun _ => True) (.slice (some ⟨gt, 0, none⟩) T.length ct) T) := ⟨by rw [hW, hTl, hT]; exact Kd.R_putn HQ3.out (k : Int) y⟩
  have HB4 : Aside0 (Below w.heap.size w W) := ⟨by rw [hW]; exact below_set HB3.out hgt⟩
  rw [← hW]
  rw [← hTl] at hs0 hs200 hct hsz ⊢
  clear hy hyB hT hW hTl htc htf hk hks HSB HXB HQ3 HB3
  clear w3
  have hwr : wrap64 ((T.length : Int) - 1) = ((T.length - 1 : Nat) : Int) := by unfold wrap64; omega
  have hk0 : (0 : Int) ≤ ((T.length - 1 : Nat) : Int) ∧ ((T.length - 1 : Nat) : Int) ≤ (ct : Int) := by omega
  have HAB : Aside0 (T.length + 1 ≤ 1000) := ⟨by omega⟩
  go_cut [53, 54, 55] (fun v53 v54 v55 wc => v54 = .int .i64 4 ∧ v55 = .int .i64 0 ∧ ∃ (gs : Nat) (Am : Option Addr) (cm : Nat), v53 = .slice (some ⟨gs, 0, none⟩) 4 4 ∧ Aside0 (T.length + 1 ≤ cm) ∧ Aside0 (Four w wc gs A0 (some ⟨gt, 0, none⟩) Am (some ⟨gt, 0, none⟩) c0 ct cm ct l0 T (T ++ [a4]) (T.take (T.length - 1))))
  case first =>
    refine start_ (n := 15) (S := fun w' => True) (ds := []) #[false, false, false, false, false, false, false, false, false, false, false, false, false, false, false] (by kernel_rfl) rfl rfl trivial (fun hHeld => ?_)
    refine with_tabW oreads.tab7 oreads.bits7 (fun HT_ HW_ => ?_)
    refine pure_ (i := 0) (N := some 41) (v := ?_) (a' := ?_) #[true, false, false, false, false, false, false, false, false, false, false, false, false, false, false] rfl rfl (any_of HT_.out (by kernel_rfl)) (fun _ _ _ h => h) (Or.inl ⟨by rfl, ?_⟩) ?_ ?_
    rotate_left
    · intro w'
      go_simp
      with_reducible rfl
    rotate_left
    · simp only [Act.put, List.setIfInBounds_toArray, List.set_cons_zero, List.set_cons_succ, i64_w, i32_w]
      rfl
    refine pure_ (i := 1) (N := some 42) (v := ?_) (a' := ?_) #[true, true, false, false, false, false, false, false, false, false, false, false, false, false, false] rfl rfl (any_of HT_.out (by kernel_rfl)) (fun _ _ _ h => h) (Or.inl ⟨by rfl, ?_⟩) ?_ ?_
    rotate_left
    · intro w'
      go_simp
      with_reducible rfl
    rotate_left
    · simp only [Act.put, List.setIfInBounds_toArray, List.set_cons_zero, List.set_cons_succ, i64_w, i32_w]
      rfl
    refine pure_ (i := 2) (N := some 43) (v := ?_) (a' := ?_) #[true, true, true, false, false, false, false, false, false, false, false, false, false, false, false] rfl rfl (any_of HT_.out (by kernel_rfl)) (fun _ _ _ h => h) (Or.inl ⟨by rfl, ?_⟩) ?_ ?_
    rotate_left
    · intro w'
      go_simp
      with_reducible rfl
    rotate_left
    · simp only [Act.put, List.setIfInBounds_toArray, List.set_cons_zero, List.set_cons_succ, i64_w, i32_w]
      rfl
    refine pure_ (i := 4) (N := some 45) (v := ?_) (a' := ?_) #[true, true, true, false, true, false, false, false, false, false, false, false, false, false, false] rfl rfl (any_of HT_.out (by kernel_rfl)) (fun _ _ _ h => h) (Or.inl ⟨by rfl, ?_⟩) ?_ ?_
    rotate_left
    · intro w'
      go_simp
      with_reducible rfl
    rotate_left
    · simp only [Act.put, List.setIfInBounds_toArray, List.set_cons_zero, List.set_cons_succ, i64_w, i32_w]
      rfl
    refine pure_ (i := 7) (N := some 48) (v := ?_) (a' := ?_) #[true, true, true, false, true, false, false, true, false, false, false, false, false, false, false] rfl rfl (any_of HT_.out (by kernel_rfl)) (fun _ _ _ h => h) (Or.inl ⟨by rfl, ?_⟩) ?_ ?_
    rotate_left
    · intro w'
      go_simp
      with_reducible rfl
    rotate_left
    · simp only [Act.put, List.setIfInBounds_toArray, List.set_cons_zero, List.set_cons_succ, i64_w, i32_w]
      rfl
    refine pure_ (i := 8) (N := some 49) (v := ?_) (a' := ?_) #[true, true, true, false, true, false, false, true, true, false, false, false, false, false, false] rfl rfl (any_of HT_.out (by kernel_rfl)) (fun _ _ _ h => h) (Or.inl ⟨by rfl, ?_⟩) ?_ ?_
    rotate_left
    · intro w'
      go_simp
      with_reducible rfl
    rotate_left
    · simp only [Act.put, List.setIfInBounds_toArray, List.set_cons_zero, List.set_cons_succ, i64_w, i32_w]
      rfl
    refine pure_ (i := 9) (N := some 50) (v := ?_) (a' := ?_) #[true, true, true, false, true, false, false, true, true, true, false, false, false, false, false] rfl rfl (any_of HT_.out (by kernel_rfl)) (fun _ _ _ h => h) (Or.inl ⟨by rfl, ?_⟩) ?_ ?_
    rotate_left
    · intro w'
      go_simp
      with_reducible rfl
    rotate_left
    · simp only [Act.put, List.setIfInBounds_toArray, List.set_cons_zero, List.set_cons_succ, i64_w, i32_w]
      rfl
    refine pure_ (i := 10) (N := some 51) (v := ?_) (a' := ?_) #[true, true, true, false, true, false, false, true, true, true, true, false, false, false, false] rfl rfl (any_of HT_.out (by kernel_rfl)) (fun _ _ _ h => h) (Or.inl ⟨by rfl, ?_⟩) ?_ ?_
    rotate_left
    · intro w'
      go_simp
      with_reducible rfl
    rotate_left
    · simp only [Act.put, List.setIfInBounds_toArray, List.set_cons_zero, List.set_cons_succ, i64_w, i32_w]
      rfl
    refine pure_ (i := 11) (N := some 52) (v := ?_) (a' := ?_) #[true, true, true, false, true, false, false, true, true, true, true, true, false, false, false] rfl rfl (any_of HT_.out (by kernel_rfl)) (fun _ _ _ h => h) (Or.inl ⟨by rfl, ?_⟩) ?_ ?_
    rotate_left
    · intro w'
      go_simp
      with_reducible rfl
    rotate_left
    · simp only [Act.put, List.setIfInBounds_toArray, List.set_cons_zero, List.set_cons_succ, i64_w, i32_w]
      rfl
    refine pure_ (i := 14) (N := some 55) (v := ?_) (a' := ?_) #[true, true, true, false, true, false, false, true, true, true, true, true, false, false, true] rfl rfl (any_of HT_.out (by kernel_rfl)) (fun _ _ _ h => h) (Or.inl ⟨by rfl, ?_⟩) ?_ ?_
    rotate_left
    · intro w'
      go_simp
      with_reducible rfl
    rotate_left
    · simp only [Act.put, List.setIfInBounds_toArray, List.set_cons_zero, List.set_cons_succ, i64_w, i32_w]
      rfl
    refine join_ (σ := Value × Nat) 3 #[true, true, true, true, true, true, false, true, true, true, true, true, false, false, true] (fun s => [(44, s.1), (46, .slice (some ⟨s.2, 0, none⟩) 1 1)]) (fun s w' => Kd.R (Kd.int .u8) 5 w' W.heap.size (fun _ => True) s.1 T ∧ Below W.heap.size W w' ∧ Kd.C (Kd.int .u8) w' (some ⟨s.2, 0, none⟩) 1 [a4]) ?_ ?_
    rotate_left
    · intro hCont
      refine two_ (i := 3) (j := 5) (Ni := some 44) (Nj := some 46) #[true, true, true, true, true, false, false, true, true, true, true, true, false, false, true] #[true, true, true, false, true, true, false, true, true, true, true, true, false, false, true] rfl rfl rfl rfl (two_of HT_.out (by kernel_rfl)) (by decide) (by decide) (fun K hK => ?_) (fun K hK => ?_)
      · skip
        refine Kd.R_append_rows_step (Kd.int .u8) (w0 := W) W.heap.size (by rfl) (.const (.slice none 0 0)) (.tmp 43) 34 5 (.int .u8 0) 1 rfl Try.underlying34 info5 rfl (by decide) (by omega) (.slice none 0 0) ([] : List Int) T _ _ _ (fun _ => True) (fun _ => False) rfl rfl (Kd.R_nil _ _ _ _ (fun _ => True)) (Kd.R_reads' (Kd.R_drew HT4.out)).2.2 (fun _ _ h => h) (fun _ h => h.elim) (fun _ _ => trivial) (below_drew (Below.refl _ _)) (below_drew (Below.refl W.heap.size W)).size (by have := HAB.out; simp; omega) ?_
        intro v44 w5 ho hb hg hat
        rw [List.nil_append] at ho
        have HO5 := Aside0.mk ho
        have HB5 := Aside0.mk hb
        clear ho hb hg hat
        refine hK.out _ _ trivial (fun hHeld => ?_)
        clear hK K
        refine norm_ (a' := ?_) ?_ ?_
        rotate_left
        · show Act.put _ (some 44) _ = _
          simp only [Act.put, List.setIfInBounds_toArray, List.set_cons_zero, List.set_cons_succ, i64_w, i32_w]
          rfl
        refine one_ (i := 5) (N := some 46) #[true, true, true, true, true, true, false, true, true, true, true, true, false, false, true] rfl rfl (one_of HT_.out (by kernel_rfl)) (by decide) (fun K hK => ?_)
        refine value_ (w1 := ?_) (v := ?_) (by rfl) rfl ?_ ?_
        rotate_left 2
        · go_simp
          constructor
          · rfl
          · rfl
        refine hK.out _ _ trivial (fun hHeld => ?_)
        clear hK K
        refine norm_ (a' := ?_) ?_ ?_
        rotate_left
        · show Act.put _ (some 46) _ = _
          simp only [Act.put, List.setIfInBounds_toArray, List.set_cons_zero, List.set_cons_succ, i64_w, i32_w]
          rfl
        exact norm_ (by first | (simp only [putAll, Act.put, List.setIfInBounds_toArray, List.set_cons_zero, List.set_cons_succ]; done) | (simp only [putAll, Act.put, List.setIfInBounds_toArray, List.set_cons_zero, List.set_cons_succ]; rfl)) (hCont (v44, w5.heap.size) _ ⟨Kd.R_alloc HO5.out _, below_alloc HB5.out _, one_row w5 a4⟩)
      · skip
        refine value_ (w1 := ?_) (v := ?_) (by rfl) rfl ?_ ?_
        rotate_left 2
        · go_simp
          constructor
          · rfl
          · rfl
        refine hK.out _ _ trivial (fun hHeld => ?_)
        clear hK K
        refine norm_ (a' := ?_) ?_ ?_
        rotate_left
        · show Act.put _ (some 46) _ = _
          simp only [Act.put, List.setIfInBounds_toArray, List.set_cons_zero, List.set_cons_succ, i64_w, i32_w]
          rfl
        refine one_ (i := 3) (N := some 44) #[true, true, true, true, true, true, false, true, true, true, true, true, false, false, true] rfl rfl (one_of HT_.out (by kernel_rfl)) (by decide) (fun K hK => ?_)
        refine Kd.R_append_rows_step (Kd.int .u8) (w0 := (W.drew.alloc (.cells #[.int .u8 a4] 5))) (W.drew.alloc (.cells #[.int .u8 a4] 5)).heap.size (by rfl) (.const (.slice none 0 0)) (.tmp 43) 34 5 (.int .u8 0) 1 rfl Try.underlying34 info5 rfl (by decide) (by omega) (.slice none 0 0) ([] : List Int) T _ _ _ (fun _ => True) (fun _ => False) rfl rfl (Kd.R_nil _ _ _ _ (fun _ => True)) (Kd.R_reads' (Kd.R_alloc (Kd.R_drew HT4.out) _)).2.2 (fun _ _ h => h) (fun _ h => h.elim) (fun _ _ => trivial) (Below.refl _ _) (Nat.le_refl _) (by have := HAB.out; simp; omega) ?_
        intro v44 w5 ho hb hg hat
        rw [List.nil_append] at ho
        have HO5 := Aside0.mk ho
        have HB5 := Aside0.mk hb
        clear ho hb hg hat
        refine hK.out _ _ trivial (fun hHeld => ?_)
        clear hK K
        refine norm_ (a' := ?_) ?_ ?_
        rotate_left
        · show Act.put _ (some 44) _ = _
          simp only [Act.put, List.setIfInBounds_toArray, List.set_cons_zero, List.set_cons_succ, i64_w, i32_w]
          rfl
        exact norm_ (by first | (simp only [putAll, Act.put, List.setIfInBounds_toArray, List.set_cons_zero, List.set_cons_succ]; done) | (simp only [putAll, Act.put, List.setIfInBounds_toArray, List.set_cons_zero, List.set_cons_succ]; rfl)) (hCont (v44, W.drew.heap.size) _ ⟨Kd.R_lower HO5.out (below_alloc (below_drew (Below.refl W.heap.size W)) _).size, (below_alloc (below_drew (Below.refl W.heap.size W)) _).trans (HB5.out.mono (below_alloc (below_drew (Below.refl W.heap.size W)) _).size), Kd.C_below (one_row W.drew a4) HB5.out⟩)
    rintro ⟨v44, gb⟩ w5 ⟨ho, hb, hone⟩
    have hHeld : True := trivial
    dsimp only at ho hb hone
    have HO5 := Aside0.mk ho
    have HB5 := Aside0.mk hb
    have HE5 := Aside0.mk hone
    clear ho hb hone
    refine norm_ (a' := ?_) ?_ ?_
    rotate_left
    · simp only [putAll, Act.put, List.setIfInBounds_toArray, List.set_cons_zero, List.set_cons_succ]
      rfl
    refine one_ (i := 6) (N := some 47) #[true, true, true, true, true, true, true, true, true, true, true, true, false, false, true] rfl rfl (one_of HT_.out (by kernel_rfl)) (by decide) (fun K hK => ?_)
    refine Kd.R_append_rows_step (Kd.int .u8) (w0 := W) W.heap.size (by rfl) (.tmp 44) (.tmp 46) 34 5 (.int .u8 0) 1 rfl Try.underlying34 info5 rfl (by decide) (by omega) v44 T [a4] _ _ _ (fun _ => True) (fun _ => False) rfl rfl HO5.out HE5.out (fun _ _ h => h) (fun _ h => h.elim) (fun _ _ => trivial) HB5.out HB5.out.size (by have := HAB.out; simp; omega) ?_
    intro v47 w6 ho hb hg hat
    obtain ⟨Am, cm, em⟩ := Kd.R_slice ho
    subst em
    have HO6 := Aside0.mk ho
    have HB6 := Aside0.mk hb
    have HG6 := Aside0.mk hg
    have HT6 := Aside0.mk hat
    clear ho hb hg hat
    refine hK.out _ _ trivial (fun hHeld => ?_)
    clear hK K
    refine norm_ (a' := ?_) ?_ ?_
    rotate_left
    · show Act.put _ (some 47) _ = _
      simp only [Act.put, List.setIfInBounds_toArray, List.set_cons_zero, List.set_cons_succ, i64_w, i32_w]
      rfl
    refine one_ (i := 12) (N := some 53) #[true, true, true, true, true, true, true, true, true, true, true, true, true, false, true] rfl rfl (one_of HT_.out (by kernel_rfl)) (by decide) (fun K hK => ?_)
    refine value_ (w1 := ?_) (v := ?_) (by rfl) rfl ?_ ?_
    rotate_left 2
    · go_simp
      constructor
      · rfl
      · rfl
    refine hK.out _ _ trivial (fun hHeld => ?_)
    clear hK K
    refine norm_ (a' := ?_) ?_ ?_
    rotate_left
    · show Act.put _ (some 53) _ = _
      simp only [Act.put, List.setIfInBounds_toArray, List.set_cons_zero, List.set_cons_succ, i64_w, i32_w]
      rfl
    refine pure_ (i := 13) (N := some 54) (v := ?_) (a' := ?_) #[true, true, true, true, true, true, true, true, true, true, true, true, true, true, true] rfl rfl (any_of HT_.out (by kernel_rfl)) (fun _ _ _ h => h) (Or.inl ⟨by rfl, ?_⟩) ?_ ?_
    rotate_left
    · intro w'
      go_simp
      with_reducible rfl
    rotate_left
    · simp only [Act.put, List.setIfInBounds_toArray, List.set_cons_zero, List.set_cons_succ, i64_w, i32_w]
      rfl
    refine done_ (done_of HT_.out (by kernel_rfl)) ?_
    have hgo := Aside0.mk hk0
    clear hk0
    go_wp2_with fail
    go_meet
    case rel =>
      have hbW : Below w.heap.size w w6 := HB4.out.trans (HB6.out.mono HB4.out.size)
      have hT6 := (Kd.R_reads' (Kd.R_below HT4.out HB6.out)).2.2
      have e : (T.take (T.length - 1)).length = T.length - 1 := by simp
      refine ⟨rfl, rfl, _, Am, cm, rfl, ⟨by have := (Kd.R_reads' HO6.out).2.1; simpa using this⟩, ⟨below_alloc hbW _, ?_, Kd.C_alloc (Kd.C_below HR.out hbW) _, Kd.C_alloc hT6 _, Kd.C_alloc (Kd.R_reads' HO6.out).2.2 _, Kd.C_alloc (Kd.C_take hT6 (by omega)) _⟩⟩
      have hbn := blk_new w6 (.cells #[.slice A0 l0.length c0, .slice (some ⟨gt, 0, none⟩) T.length ct, .slice Am (T ++ [a4]).length cm, .slice (some ⟨gt, 0, none⟩) (T.length - 1) ct] 34)
      simpa using hbn
  case rest =>
    obtain ⟨rfl, rfl, gs, Am, cm, rfl, HCM, HTW⟩ := hcut
    have HCT : Aside0 (Okay ct T) := ⟨⟨hct, HTB.out, by omega⟩⟩
    have HC2 : Aside0 (Okay cm (T ++ [a4])) := ⟨⟨by have := HCM.out; simpa using this, byt_app HTB.out H4.out, by simp; omega⟩⟩
    have HC3 : Aside0 (Okay ct (T.take (T.length - 1))) := ⟨⟨by simp; omega, fun z hz => HTB.out z (List.mem_of_mem_take hz), by simp; omega⟩⟩
    obtain ⟨T2, hT2⟩ : ∃ T2, T2 = T ++ [a4] := ⟨_, rfl⟩
    obtain ⟨T3, hT3⟩ : ∃ T3, T3 = T.take (T.length - 1) := ⟨_, rfl⟩
    rw [← hT2] at HTW HC2
    rw [← hT3] at HTW HC3
    clear hT2 hT3 HCM HT4 HB4 HAB hwr hk0 hsz hs0 hs200 hct hgt HN
    clear W
    go_wp2_with fail
    go_loopg [55] 4 (fun kq v50 wr => ∃ i : Nat, v50 = .int .i64 i ∧ i ≤ 4 ∧ Aside0 (kq = 4 - i) ∧ Aside0 (Four w wr gs A0 (some ⟨gt, 0, none⟩) Am (some ⟨gt, 0, none⟩) c0 ct cm ct l0 T T2 T3))
    case atStart => exact ⟨0, rfl, by omega, ⟨rfl⟩, HTW⟩
    case round =>
      clear HTW
      obtain ⟨i, rfl, hi2, hk, HT⟩ := hrel
      by_cases hlt : i < 4
      · obtain ⟨AX, X, cX, hcell, hrX, hcX⟩ := HT.out.at i hlt HC.out HCT.out HC2.out HC3.out
        have HRX := Aside0.mk hrX
        have HCX := Aside0.mk hcX
        clear hrX hcX
        go_wp2_with fail
        go_at_call 24
        rcases decode_any HCX.out.byt (by have := HCX.out.len; omega) with hz | ⟨p0, p1, p2, p3, p4, p5, p6, p7, p8, p9, q0, q1, q2, q3, q4, q5, pl, hpr, hpl, hz⟩
        · refine (decode_c AX cX wr HRX.out HCX.out.cap hz).mono ?_
          rintro r w7 ⟨rfl, hb⟩
          have HT7 := Aside0.mk ((HT.out.below hb).below (below_alloc (Below.refl _ _) (.cells #[.int .u8 0, .int .i64 0, .int .i64 0, .int .i64 0, .int .i64 0, .int .u8 0, .int .i64 0, .int .i64 0, .bool false, .bool false, .int .u8 0, .int .i64 0, .int .i64 0, .int .i64 0, .int .i64 0, .int .u8 0] 27)))
          clear hb hz hcell HT
          go_wp2_with fail
          go_quiet (fail)
          go_wp2_with fail
          go_roundg (4 - (i + 1))
          case measure => have := hk.out; omega
          case rel => exact ⟨i + 1, by go_num, by omega, ⟨rfl⟩, ⟨by first | exact HT7.out | exact HT7.out.drewN _⟩⟩
        · have HP := Aside0.mk hpr
          have HPL := Aside0.mk hpl
          refine (decode_c AX cX wr HRX.out HCX.out.cap hz).mono ?_
          rintro r w7 ⟨rfl, hb⟩
          have HT7 := Aside0.mk (HT.out.below hb)
          have HV7 := Aside0.mk (Kd.C_below HRX.out hb)
          clear hb hz hcell HT hpr hpl HRX
          go_wp2_with fail
          obtain ⟨W, hW⟩ : ∃ W, W = w7.alloc (.cells #[.int .u8 p0, .int .i64 p1, .int .i64 p2, .int .i64 p3, .int .i64 p4, .int .u8 p5, .int .i64 p6, .int .i64 p7, .bool p8, .bool p9, .int .u8 q0, .int .i64 q1, .int .i64 q2, .int .i64 q3, .int .i64 q4, .int .u8 q5] 27) := ⟨_, rfl⟩
          have HBK : Aside0 (W.heap[w7.heap.size]? = some (.cells #[.int .u8 p0, .int .i64 p1, .int .i64 p2, .int .i64 p3, .int .i64 p4, .int .u8 p5, .int .i64 p6, .int .i64 p7, .bool p8, .bool p9, .int .u8 q0, .int .i64 q1, .int .i64 q2, .int .i64 q3, .int .i64 q4, .int .u8 q5] 27 (0, 0))) := ⟨by rw [hW]; exact blk_new _ _⟩
          have HTW : Aside0 (Four w W gs A0 (some ⟨gt, 0, none⟩) Am (some ⟨gt, 0, none⟩) c0 ct cm ct l0 T T2 T3) := ⟨by rw [hW]; exact HT7.out.below (below_alloc (Below.refl _ _) _)⟩
          have HCW : Aside0 (Kd.C (Kd.int .u8) W AX X.length X) := ⟨by rw [hW]; exact Kd.C_alloc HV7.out _⟩
          obtain ⟨gm, hgm⟩ : ∃ gm, gm = w7.heap.size := ⟨_, rfl⟩
          rw [← hW, ← hgm]
          rw [← hgm] at HBK
          clear hW hgm HT7 HV7
          clear w7
          have hcpd := Kd.C_string (P := Try.prog) (c := cX) Try.underlying34 Try.underlying5 Try.underlying9 (Kd.C_drew HCW.out)
          refine start_ (n := 28) (S := fun w' => w'.heap[gm]? = some (.cells #[.int .u8 p0, .int .i64 p1, .int .i64 p2, .int .i64 p3, .int .i64 p4, .int .u8 p5, .int .i64 p6, .int .i64 p7, .bool p8, .bool p9, .int .u8 q0, .int .i64 q1, .int .i64 q2, .int .i64 q3, .int .i64 q4, .int .u8 q5] 27 (0, 0)) ∧ Go.Sem.run Try.prog (Go.convert 34 9 (.slice AX X.length cX)) w' = .ok (.string (strOfNums X)) w') (ds := []) #[false, false, false, false, false, false, false, false, false, false, false, false, false, false, false, false, false, false, false, false, false, false, false, false, false, false, false, false] (by kernel_rfl) rfl rfl ⟨blk_drew HBK.out, hcpd⟩ (fun hHeld => ?_)
          refine with_tabW oreads.tab11 oreads.bits11 (fun HT_ HW_ => ?_)
          refine pure_ (i := 0) (N := some 64) (v := ?_) (a' := ?_) #[true, false, false, false, false, false, false, false, false, false, false, false, false, false, false, false, false, false, false, false, false, false, false, false, false, false, false, false] rfl rfl (any_of HT_.out (by kernel_rfl)) (fun _ _ _ h => h) (Or.inl ⟨by rfl, ?_⟩) ?_ ?_
          rotate_left
          · intro w'
            go_simp
            with_reducible rfl
          rotate_left
          · simp only [Act.put, List.setIfInBounds_toArray, List.set_cons_zero, List.set_cons_succ, i64_w, i32_w]
            rfl
          refine pure_ (i := 1) (N := some 65) (v := ?_) (a' := ?_) #[true, true, false, false, false, false, false, false, false, false, false, false, false, false, false, false, false, false, false, false, false, false, false, false, false, false, false, false] rfl rfl (any_of HT_.out (by kernel_rfl)) (fun _ _ _ h => h) (Or.inl ⟨by rfl, ?_⟩) ?_ ?_
          rotate_left
          · intro w'
            go_simp
            with_reducible rfl
          rotate_left
          · simp only [Act.put, List.setIfInBounds_toArray, List.set_cons_zero, List.set_cons_succ, i64_w, i32_w]
            rfl
          refine pure_ (i := 2) (N := some 66) (v := ?_) (a' := ?_) #[true, true, true, false, false, false, false, false, false, false, false, false, false, false, false, false, false, false, false, false, false, false, false, false, false, false, false, false] rfl rfl (any_of HT_.out (by kernel_rfl)) (fun _ _ _ h => h) (Or.inl ⟨by rfl, ?_⟩) ?_ ?_
          rotate_left
          · intro w'
            go_simp
            with_reducible rfl
          rotate_left
          · simp only [Act.put, List.setIfInBounds_toArray, List.set_cons_zero, List.set_cons_succ, i64_w, i32_w]
            rfl
          refine take_ (i := 3) (N := some 67) (v := ?_) (a' := ?_) #[true, true, true, true, false, false, false, false, false, false, false, false, false, false, false, false, false, false, false, false, false, false, false, false, false, false, false, false] rfl rfl (take_ofW HT_.out HW_.out (by kernel_rfl)) (fun _ _ _ h => h) (Or.inl ⟨by rfl, ?_⟩) hHeld ?_ ?_
          rotate_left
          · rintro w' ⟨s0, s1⟩
            refine ex_row 27 (.tmp 14) ?_ gm ?_ 27 #[.int .u8 p0, .int .i64 p1, .int .i64 p2, .int .i64 p3, .int .i64 p4, .int .u8 p5, .int .i64 p6, .int .i64 p7, .bool p8, .bool p9, .int .u8 q0, .int .i64 q1, .int .i64 q2, .int .i64 q3, .int .i64 q4, .int .u8 q5] (0, 0) _ s0 Try.underlying27 ?_ ?_ <;> rfl
          rotate_left
          · simp only [Act.put, List.setIfInBounds_toArray, List.set_cons_zero, List.set_cons_succ, i64_w, i32_w]
            rfl
          refine one_ (i := 4) (N := some 68) #[true, true, true, true, true, false, false, false, false, false, false, false, false, false, false, false, false, false, false, false, false, false, false, false, false, false, false, false] rfl rfl (one_of HT_.out (by kernel_rfl)) (by decide) (fun K hK => ?_)
          refine goes_ Try.func12 (by kernel_rfl) rfl #[.agg #[.int .u8 p0, .int .i64 p1, .int .i64 p2, .int .i64 p3, .int .i64 p4, .int .u8 p5, .int .i64 p6, .int .i64 p7, .bool p8, .bool p9, .int .u8 q0, .int .i64 q1, .int .i64 q2, .int .i64 q3, .int .i64 q4, .int .u8 q5]] (by rfl) rfl rfl (by simp only [List.map_toArray, List.map_cons, List.map_nil]; rfl) ?_
          with_reducible refine (right_c W.drew HP.out).mono ?_
          rintro r w13 ⟨rfl, hb13⟩
          refine ⟨_, rfl, ?_⟩
          have hv13 := Kd.C_below (Kd.C_drew HCW.out) hb13
          have hcq := Kd.C_string (P := Try.prog) (c := cX) Try.underlying34 Try.underlying5 Try.underlying9 hv13
          have hk13 := blk_below (blk_drew HBK.out) hb13
          have HB13 := Aside0.mk hb13
          have HV13 := Aside0.mk hv13
          have HK13 := Aside0.mk hk13
          clear hb13 hv13
          refine hK.out _ _ ⟨hk13, hcq⟩ (fun hHeld => ?_)
          clear hK K
          refine norm_ (a' := ?_) ?_ ?_
          rotate_left
          · show Act.put _ (some 68) _ = _
            simp only [Act.put, List.setIfInBounds_toArray, List.set_cons_zero, List.set_cons_succ, i64_w, i32_w]
            rfl
          refine pure_ (i := 5) (N := some 69) (v := ?_) (a' := ?_) #[true, true, true, true, true, true, false, false, false, false, false, false, false, false, false, false, false, false, false, false, false, false, false, false, false, false, false, false] rfl rfl (any_of HT_.out (by kernel_rfl)) (fun _ _ _ h => h) (Or.inl ⟨by rfl, ?_⟩) ?_ ?_
          rotate_left
          · intro w'
            go_simp
            with_reducible rfl
          rotate_left
          · simp only [Act.put, List.setIfInBounds_toArray, List.set_cons_zero, List.set_cons_succ, i64_w, i32_w]
            rfl
          refine pure_ (i := 6) (N := some 70) (v := ?_) (a' := ?_) #[true, true, true, true, true, true, true, false, false, false, false, false, false, false, false, false, false, false, false, false, false, false, false, false, false, false, false, false] rfl rfl (any_of HT_.out (by kernel_rfl)) (fun _ _ _ h => h) (Or.inl ⟨by rfl, ?_⟩) ?_ ?_
          rotate_left
          · intro w'
            go_simp
            with_reducible rfl
          rotate_left
          · simp only [Act.put, List.setIfInBounds_toArray, List.set_cons_zero, List.set_cons_succ, i64_w, i32_w]
            rfl
          refine pure_ (i := 10) (N := some 74) (v := ?_) (a' := ?_) #[true, true, true, true, true, true, true, false, false, false, true, false, false, false, false, false, false, false, false, false, false, false, false, false, false, false, false, false] rfl rfl (any_of HT_.out (by kernel_rfl)) (fun _ _ _ h => h) (Or.inl ⟨by rfl, ?_⟩) ?_ ?_
          rotate_left
          · intro w'
            go_simp
            with_reducible rfl
          rotate_left
          · simp only [Act.put, List.setIfInBounds_toArray, List.set_cons_zero, List.set_cons_succ, i64_w, i32_w]
            rfl
          refine take_ (i := 7) (N := some 71) (v := ?_) (a' := ?_) #[true, true, true, true, true, true, true, true, false, false, true, false, false, false, false, false, false, false, false, false, false, false, false, false, false, false, false, false] rfl rfl (take_ofW HT_.out HW_.out (by kernel_rfl)) (fun _ _ _ h => h) (Or.inl ⟨by rfl, ?_⟩) hHeld ?_ ?_
          rotate_left
          · rintro w' ⟨s0, s1⟩
            refine ex_row 27 (.tmp 14) ?_ gm ?_ 27 #[.int .u8 p0, .int .i64 p1, .int .i64 p2, .int .i64 p3, .int .i64 p4, .int .u8 p5, .int .i64 p6, .int .i64 p7, .bool p8, .bool p9, .int .u8 q0, .int .i64 q1, .int .i64 q2, .int .i64 q3, .int .i64 q4, .int .u8 q5] (0, 0) _ s0 Try.underlying27 ?_ ?_ <;> rfl
          rotate_left
          · simp only [Act.put, List.setIfInBounds_toArray, List.set_cons_zero, List.set_cons_succ, i64_w, i32_w]
            rfl
          refine take_ (i := 11) (N := some 75) (v := ?_) (a' := ?_) #[true, true, true, true, true, true, true, true, false, false, true, true, false, false, false, false, false, false, false, false, false, false, false, false, false, false, false, false] rfl rfl (take_ofW HT_.out HW_.out (by kernel_rfl)) (fun _ _ _ h => h) (Or.inl ⟨by rfl, ?_⟩) hHeld ?_ ?_
          rotate_left
          · rintro w' ⟨s0, s1⟩
            go_simp
            with_reducible rfl
          rotate_left
          · simp only [Act.put, List.setIfInBounds_toArray, List.set_cons_zero, List.set_cons_succ, i64_w, i32_w]
            rfl
          refine one_ (i := 8) (N := some 72) #[true, true, true, true, true, true, true, true, true, false, true, true, false, false, false, false, false, false, false, false, false, false, false, false, false, false, false, false] rfl rfl (one_of HT_.out (by kernel_rfl)) (by decide) (fun K hK => ?_)
          refine goes_ Try.func15 (by kernel_rfl) rfl #[.agg #[.int .u8 p0, .int .i64 p1, .int .i64 p2, .int .i64 p3, .int .i64 p4, .int .u8 p5, .int .i64 p6, .int .i64 p7, .bool p8, .bool p9, .int .u8 q0, .int .i64 q1, .int .i64 q2, .int .i64 q3, .int .i64 q4, .int .u8 q5]] (by rfl) rfl rfl (by simp only [List.map_toArray, List.map_cons, List.map_nil]; rfl) ?_
          with_reducible refine (encode_c w13 HP.out HPL.out).mono ?_
          rintro r w14 ⟨x, rfl, hx, hb14⟩
          refine ⟨_, rfl, ?_⟩
          have hcx := own_string (P := Try.prog) Try.underlying34 Try.underlying5 Try.underlying9 (Kd.own_of_R hx)
          have hcr := Kd.C_string (P := Try.prog) (c := cX) Try.underlying34 Try.underlying5 Try.underlying9 (Kd.C_below HV13.out hb14)
          have hk14 := blk_below HK13.out hb14
          have HTE := Aside0.mk ((HTW.out.drew.below HB13.out).below hb14)
          clear hx hb14
          refine hK.out _ _ ⟨hk14, hcr⟩ (fun hHeld => ?_)
          clear hK K
          refine norm_ (a' := ?_) ?_ ?_
          rotate_left
          · show Act.put _ (some 72) _ = _
            simp only [Act.put, List.setIfInBounds_toArray, List.set_cons_zero, List.set_cons_succ, i64_w, i32_w]
            rfl
          refine one_ (i := 9) (N := some 73) #[true, true, true, true, true, true, true, true, true, true, true, true, false, false, false, false, false, false, false, false, false, false, false, false, false, false, false, false] rfl rfl (one_of HT_.out (by kernel_rfl)) (by decide) (fun K hK => ?_)
          refine value_ (w1 := ?_) (v := ?_) (by rfl) rfl ?_ ?_
          rotate_left 2
          · go_simp
            constructor
            · rfl
            · rfl
          refine hK.out _ _ ⟨hk14, hcr⟩ (fun hHeld => ?_)
          clear hK K
          refine norm_ (a' := ?_) ?_ ?_
          rotate_left
          · show Act.put _ (some 73) _ = _
            simp only [Act.put, List.setIfInBounds_toArray, List.set_cons_zero, List.set_cons_succ, i64_w, i32_w]
            rfl
          refine pure_ (i := 12) (N := some 76) (v := ?_) (a' := ?_) #[true, true, true, true, true, true, true, true, true, true, true, true, true, false, false, false, false, false, false, false, false, false, false, false, false, false, false, false] rfl rfl (any_of HT_.out (by kernel_rfl)) (fun _ _ _ h => h) (Or.inl ⟨by rfl, ?_⟩) ?_ ?_
          rotate_left
          · intro w'
            go_simp
            with_reducible rfl
          rotate_left
          · simp only [Act.put, List.setIfInBounds_toArray, List.set_cons_zero, List.set_cons_succ, i64_w, i32_w]
            rfl
          refine pure_ (i := 13) (N := some 77) (v := ?_) (a' := ?_) #[true, true, true, true, true, true, true, true, true, true, true, true, true, true, false, false, false, false, false, false, false, false, false, false, false, false, false, false] rfl rfl (any_of HT_.out (by kernel_rfl)) (fun _ _ _ h => h) (Or.inl ⟨by rfl, ?_⟩) ?_ ?_
          rotate_left
          · intro w'
            go_simp
            with_reducible rfl
          rotate_left
          · simp only [Act.put, List.setIfInBounds_toArray, List.set_cons_zero, List.set_cons_succ, i64_w, i32_w]
            rfl
          refine pure_ (i := 14) (N := some 78) (v := ?_) (a' := ?_) #[true, true, true, true, true, true, true, true, true, true, true, true, true, true, true, false, false, false, false, false, false, false, false, false, false, false, false, false] rfl rfl (any_of HT_.out (by kernel_rfl)) (fun _ _ _ h => h) (Or.inl ⟨by rfl, ?_⟩) ?_ ?_
          rotate_left
          · intro w'
            go_simp
            with_reducible rfl
          rotate_left
          · simp only [Act.put, List.setIfInBounds_toArray, List.set_cons_zero, List.set_cons_succ, i64_w, i32_w]
            rfl
          refine pure_ (i := 15) (N := some 79) (v := ?_) (a' := ?_) #[true, true, true, true, true, true, true, true, true, true, true, true, true, true, true, true, false, false, false, false, false, false, false, false, false, false, false, false] rfl rfl (any_of HT_.out (by kernel_rfl)) (fun _ _ _ h => h) (Or.inl ⟨by rfl, ?_⟩) ?_ ?_
          rotate_left
          · intro w'
            go_simp
            with_reducible rfl
          rotate_left
          · simp only [Act.put, List.setIfInBounds_toArray, List.set_cons_zero, List.set_cons_succ, i64_w, i32_w]
            rfl
          refine pure_ (i := 16) (N := some 80) (v := ?_) (a' := ?_) #[true, true, true, true, true, true, true, true, true, true, true, true, true, true, true, true, true, false, false, false, false, false, false, false, false, false, false, false] rfl rfl (any_of HT_.out (by kernel_rfl)) (fun _ _ _ h => h) (Or.inl ⟨by rfl, ?_⟩) ?_ ?_
          rotate_left
          · intro w'
            go_simp
            with_reducible rfl
          rotate_left
          · simp only [Act.put, List.setIfInBounds_toArray, List.set_cons_zero, List.set_cons_succ, i64_w, i32_w]
            rfl
          refine pure_ (i := 17) (N := some 81) (v := ?_) (a' := ?_) #[true, true, true, true, true, true, true, true, true, true, true, true, true, true, true, true, true, true, false, false, false, false, false, false, false, false, false, false] rfl rfl (any_of HT_.out (by kernel_rfl)) (fun _ _ _ h => h) (Or.inl ⟨by rfl, ?_⟩) ?_ ?_
          rotate_left
          · intro w'
            go_simp
            with_reducible rfl
          rotate_left
          · simp only [Act.put, List.setIfInBounds_toArray, List.set_cons_zero, List.set_cons_succ, i64_w, i32_w]
            rfl
          refine pure_ (i := 18) (N := some 82) (v := ?_) (a' := ?_) #[true, true, true, true, true, true, true, true, true, true, true, true, true, true, true, true, true, true, true, false, false, false, false, false, false, false, false, false] rfl rfl (any_of HT_.out (by kernel_rfl)) (fun _ _ _ h => h) (Or.inl ⟨by rfl, ?_⟩) ?_ ?_
          rotate_left
          · intro w'
            go_simp
            with_reducible rfl
          rotate_left
          · simp only [Act.put, List.setIfInBounds_toArray, List.set_cons_zero, List.set_cons_succ, i64_w, i32_w]
            rfl
          refine pure_ (i := 19) (N := some 83) (v := undef) (a' := ?_) #[true, true, true, true, true, true, true, true, true, true, true, true, true, true, true, true, true, true, true, true, false, false, false, false, false, false, false, false] rfl rfl (any_of HT_.out (by kernel_rfl)) (fun _ _ _ h => h) (Or.inr ⟨by rfl, rfl⟩) ?_ ?_
          rotate_left
          · simp only [Act.put, List.setIfInBounds_toArray, List.set_cons_zero, List.set_cons_succ, i64_w, i32_w]
            rfl
          refine pure_ (i := 20) (N := some 84) (v := undef) (a' := ?_) #[true, true, true, true, true, true, true, true, true, true, true, true, true, true, true, true, true, true, true, true, true, false, false, false, false, false, false, false] rfl rfl (any_of HT_.out (by kernel_rfl)) (fun _ _ _ h => h) (Or.inr ⟨by rfl, rfl⟩) ?_ ?_
          rotate_left
          · simp only [Act.put, List.setIfInBounds_toArray, List.set_cons_zero, List.set_cons_succ, i64_w, i32_w]
            rfl
          refine pure_ (i := 21) (N := some 85) (v := undef) (a' := ?_) #[true, true, true, true, true, true, true, true, true, true, true, true, true, true, true, true, true, true, true, true, true, true, false, false, false, false, false, false] rfl rfl (any_of HT_.out (by kernel_rfl)) (fun _ _ _ h => h) (Or.inr ⟨by rfl, rfl⟩) ?_ ?_
          rotate_left
          · simp only [Act.put, List.setIfInBounds_toArray, List.set_cons_zero, List.set_cons_succ, i64_w, i32_w]
            rfl
          refine pure_ (i := 22) (N := some 86) (v := undef) (a' := ?_) #[true, true, true, true, true, true, true, true, true, true, true, true, true, true, true, true, true, true, true, true, true, true, true, false, false, false, false, false] rfl rfl (any_of HT_.out (by kernel_rfl)) (fun _ _ _ h => h) (Or.inr ⟨by rfl, rfl⟩) ?_ ?_
          rotate_left
          · simp only [Act.put, List.setIfInBounds_toArray, List.set_cons_zero, List.set_cons_succ, i64_w, i32_w]
            rfl
          refine pure_ (i := 23) (N := some 87) (v := undef) (a' := ?_) #[true, true, true, true, true, true, true, true, true, true, true, true, true, true, true, true, true, true, true, true, true, true, true, true, false, false, false, false] rfl rfl (any_of HT_.out (by kernel_rfl)) (fun _ _ _ h => h) (Or.inr ⟨by rfl, rfl⟩) ?_ ?_
          rotate_left
          · simp only [Act.put, List.setIfInBounds_toArray, List.set_cons_zero, List.set_cons_succ, i64_w, i32_w]
            rfl
          refine pure_ (i := 24) (N := some 88) (v := undef) (a' := ?_) #[true, true, true, true, true, true, true, true, true, true, true, true, true, true, true, true, true, true, true, true, true, true, true, true, true, false, false, false] rfl rfl (any_of HT_.out (by kernel_rfl)) (fun _ _ _ h => h) (Or.inr ⟨by rfl, rfl⟩) ?_ ?_
          rotate_left
          · simp only [Act.put, List.setIfInBounds_toArray, List.set_cons_zero, List.set_cons_succ, i64_w, i32_w]
            rfl
          refine pure_ (i := 25) (N := some 89) (v := undef) (a' := ?_) #[true, true, true, true, true, true, true, true, true, true, true, true, true, true, true, true, true, true, true, true, true, true, true, true, true, true, false, false] rfl rfl (any_of HT_.out (by kernel_rfl)) (fun _ _ _ h => h) (Or.inr ⟨by rfl, rfl⟩) ?_ ?_
          rotate_left
          · simp only [Act.put, List.setIfInBounds_toArray, List.set_cons_zero, List.set_cons_succ, i64_w, i32_w]
            rfl
          refine pure_ (i := 26) (N := some 90) (v := ?_) (a' := ?_) #[true, true, true, true, true, true, true, true, true, true, true, true, true, true, true, true, true, true, true, true, true, true, true, true, true, true, true, false] rfl rfl (any_of HT_.out (by kernel_rfl)) (fun _ _ _ h => h) (Or.inl ⟨by rfl, ?_⟩) ?_ ?_
          rotate_left
          · intro w'
            go_simp
            with_reducible rfl
          rotate_left
          · simp only [Act.put, List.setIfInBounds_toArray, List.set_cons_zero, List.set_cons_succ, i64_w, i32_w]
            rfl
          refine pure_ (i := 27) (N := some 91) (v := ?_) (a' := ?_) #[true, true, true, true, true, true, true, true, true, true, true, true, true, true, true, true, true, true, true, true, true, true, true, true, true, true, true, true] rfl rfl (any_of HT_.out (by kernel_rfl)) (fun _ _ _ h => h) (Or.inl ⟨by rfl, ?_⟩) ?_ ?_
          rotate_left
          · intro w'
            go_simp
            with_reducible rfl
          rotate_left
          · simp only [Act.put, List.setIfInBounds_toArray, List.set_cons_zero, List.set_cons_succ, i64_w, i32_w]
            rfl
          refine done_ (done_of HT_.out (by kernel_rfl)) ?_
          go_wp2_with fail
          go_roundg (4 - (i + 1))
          case measure => have := hk.out; omega
          case rel => exact ⟨i + 1, by go_num, by omega, ⟨rfl⟩, HTE⟩
      · obtain rfl : i = 4 := by omega
        go_wp2_with fail
        go_ret
        exact ⟨rfl, HT.out.b⟩
theorem oreads_any (n0 n1 n2 n3 n4 n5 n6 n7 : Int) (n8 n9 : Bool) (m0 m1 m2 m3 m4 m5 a2 a3 a4 : Int) (a0 : Option Addr) (len0 cap0 : Nat) (z0 : List Int) (w : World) (hw0 : (Lit.int .u8 n0).wf = true) (hw5 : (Lit.int .u8 n5).wf = true) (hz0 : (Lit.int .u8 m0).wf = true) (hz5 : (Lit.int .u8 m5).wf = true) (w2 : (Lit.int .u8 a2).wf = true) (w3 : (Lit.int .u8 a3).wf = true) (w4 : (Lit.int .u8 a4).wf = true)
    (w0 : (a0 = none ∧ len0 = 0 ∧ cap0 = 0 ∧ z0 = []) ∨ ∃ x, a0 = some x ∧ len0 ≤ cap0 ∧ cap0 ≤ maxLen ∧ z0.length = cap0 ∧ (∀ i, i < z0.length → w.cell? (x.add i) = some (.int .u8 (z0.getD i 0))) ∧ ∀ n ∈ z0, (Lit.int .u8 n).wf = true) :
    Calls Try.prog 8 #[.slice a0 len0 cap0, .agg #[.int .u8 n0, .int .i64 n1, .int .i64 n2, .int .i64 n3, .int .i64 n4, .int .u8 n5, .int .i64 n6, .int .i64 n7, .bool n8, .bool n9, .int .u8 m0, .int .i64 m1, .int .i64 m2, .int .i64 m3, .int .i64 m4, .int .u8 m5], .int .u8 a2, .int .u8 a3, .int .u8 a4] w fun e w' => e = .returned (.bool true) ∧ Below w.heap.size w w' := by
  obtain ⟨l0, rfl, hr0, hm0, hw0', hc0⟩ := ReadsInt.ofRowC w0
  have hr := Kd.C_of_reads (d := (0 : Int)) (h1 := fun _ => rfl) hr0
  have b2 := bounds_u8 w2
  have b3 := bounds_u8 w3
  have b4 := bounds_u8 w4
  by_cases hg : 60 < l0.length
  · exact oreads_long n0 n1 n2 n3 n4 n5 n6 n7 n8 n9 m0 m1 m2 m3 m4 m5 a2 a3 a4 a0 cap0 l0 w hg
  · exact oreads_short n0 n1 n2 n3 n4 n5 n6 n7 n8 n9 m0 m1 m2 m3 m4 m5 a2 a3 a4 a0 cap0 l0 w hw0 hw5 hz0 hz5 (by omega) (by omega) (by omega) hr hc0 (byt_of hw0') hg
end Go.Proofs.Ytlihgjonmliodaa
