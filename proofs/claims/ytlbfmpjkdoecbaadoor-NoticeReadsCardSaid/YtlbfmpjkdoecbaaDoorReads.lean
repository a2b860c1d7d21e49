/- NoticeReads: any bytes under a right seal: what they are read as has just these bytes. -/
import Derived.Test.YtlbfmpjkdoecbaaDoorTurns
import Derived.Deep.LoopGhost
import Derived.LoopTactic
namespace Go.Proofs.YtlbfmpjkdoecbaaDoor
open Go.RowKit Go.Proofs.YtlbfmpjkdoecbaaDoor.PA Go.Proofs.YtlbfmpjkdoecbaaDoorW.PrintWords Go.Proofs.YtlbfmpjkdoecbaaDoorW.PrintLast Go.Proofs.YtlbfmpjkdoecbaaDoorW.PrintMore
open Go.Proofs.YtlbfmpjkdoecbaaDoor.Pure (Bytes Byt closeI packsI packI closeI_bytes closeI_length packsI_byt decode_any decode_ev bytes_of notice_len nput_ev done_f right_f refClose_f packI_pos)
set_option linter.unusedVariables false
set_option linter.unusedSimpArgs false
theorem close_c (a b : Int) (A : Option Addr) (C : Nat) (l : List Int) (w : World) (hr : Kd.C (Kd.int .u8) w A l.length l) (hc : l.length ≤ C) (hl : Bytes l) (hm : l.length ≤ 1000) (ha : 0 ≤ a ∧ a < 4294967296) (hb : 0 ≤ b ∧ b < 4294967296) :
    Calls Tryd.prog 9 #[.int .u32 a, .int .u32 b, .slice A l.length C] w fun e w' => ∃ v, e = .returned v ∧ Kd.R (Kd.int .u8) 5 w' w.heap.size (fun _ => True) v (closeI a b l) ∧ Below w.heap.size w w' :=
  paybookref05_Close.calls (8 * l.length + 201) a b A C l (closeI a b l) w hr hc (refClose_f hl (by omega) a b ha hb _ (by omega))
theorem put_c {a b c d e v : Int} (gx : Nat) (u : Value) (w0 w : World) (h : Pure.Right a b c d e v) (hB : Below w0.heap.size w0 w) (hbx : w.heap[gx]? = some (.cells #[u, .int .i64 0] 56 (0, 0))) (hge : w0.heap.size ≤ gx) (ho : Kd.R (Kd.int .u8) 5 w w0.heap.size (fun _ => True) u []) :
    Calls Tryd.prog 13 #[.pointer (some ⟨gx, 0, none⟩), .agg #[.int .u8 a, .int .i64 b, .int .i64 c, .int .i64 d, .int .i64 e, .int .u8 v]] w fun r w' => ∃ x, r = .returned (.tuple #[]) ∧ Kd.R (Kd.int .u8) 5 w' w0.heap.size (fun _ => True) x (packsI [a, b, c, d, e, v]) ∧ w'.heap[gx]? = some (.cells #[x, .int .i64 0] 56 (0, 0)) ∧ Below w0.heap.size w0 w' := by
  obtain ⟨k, hk⟩ := nput_ev h
  refine (order_Put.calls k gx _ u [] 0 a b c d e v _ _ w0 w hB hbx hge ho (hk k (Nat.le_refl _))).mono ?_
  rintro r w' ⟨x, he, h1, h2, h3, _⟩
  exact ⟨x, he, Kd.R_mono h1 (fun _ _ => trivial), h2, h3⟩
theorem done_c (gx : Nat) (u : Value) (l : List Int) (w0 w : World) (hl : l.length ≤ 2000) (hB : Below w0.heap.size w0 w) (hbx : w.heap[gx]? = some (.cells #[u, .int .i64 0] 56 (0, 0))) (hge : w0.heap.size ≤ gx) (ho : Kd.R (Kd.int .u8) 5 w w0.heap.size (fun _ => True) u l) :
    Calls Tryd.prog 14 #[.pointer (some ⟨gx, 0, none⟩)] w fun e w' => ∃ v, e = .returned v ∧ Kd.R (Kd.int .u8) 5 w' w0.heap.size (fun _ => True) v l ∧ Below w0.heap.size w0 w' := by
  refine (pack_Box_Done.calls gx _ u l 0 _ _ _ w0 w hB hbx hge ho (done_f l 0 (by omega))).mono ?_
  rintro e w' ⟨v, u', he, h1, h2, h3, h4, _⟩
  exact ⟨v, he, Kd.R_mono h1 (fun _ _ => trivial), h4⟩
theorem right_c {a b c d e v : Int} (w : World) (h : Pure.Right a b c d e v) : Calls Tryd.prog 15 #[.agg #[.int .u8 a, .int .i64 b, .int .i64 c, .int .i64 d, .int .i64 e, .int .u8 v]] w fun r w' => r = .returned (.bool true) ∧ Below w.heap.size w w' :=
  notice_Right.calls a b c d e v true w (right_f h)
/-- The two rows that are looked at, in the slice's block. -/
structure Two (w0 w : World) (gs : Nat) (A0 A1 : Option Addr) (c0 c1 : Nat) (l0 l1 : List Int) : Prop where
  b : Below w0.heap.size w0 w
  s : w.heap[gs]? = some (.cells #[.slice A0 l0.length c0, .slice A1 l1.length c1] 25 (0, 0))
  r0 : Kd.C (Kd.int .u8) w A0 l0.length l0
  r1 : Kd.C (Kd.int .u8) w A1 l1.length l1
theorem Two.below {w0 w w' : World} {gs : Nat} {A0 A1 : Option Addr} {c0 c1 : Nat} {l0 l1 : List Int} (h : Two w0 w gs A0 A1 c0 c1 l0 l1) (hb : Below w.heap.size w w') : Two w0 w' gs A0 A1 c0 c1 l0 l1 :=
  ⟨h.b.trans (hb.mono h.b.size), blk_below h.s hb, Kd.C_below h.r0 hb, Kd.C_below h.r1 hb⟩
theorem Two.drew {w0 w : World} {gs : Nat} {A0 A1 : Option Addr} {c0 c1 : Nat} {l0 l1 : List Int} (h : Two w0 w gs A0 A1 c0 c1 l0 l1) : Two w0 w.drew gs A0 A1 c0 c1 l0 l1 := ⟨below_drew h.b, h.s, Kd.C_drew h.r0, Kd.C_drew h.r1⟩
theorem Two.drewN {w0 w : World} {gs : Nat} {A0 A1 : Option Addr} {c0 c1 : Nat} {l0 l1 : List Int} (h : Two w0 w gs A0 A1 c0 c1 l0 l1) (m : Nat) : Two w0 (w.drewN m) gs A0 A1 c0 c1 l0 l1 := ⟨pw_below_drewN h.b m, h.s, Kd.C_drewN h.r0 m, Kd.C_drewN h.r1 m⟩
theorem Two.at {w0 w : World} {gs : Nat} {A0 A1 : Option Addr} {c0 c1 : Nat} {l0 l1 : List Int} (h : Two w0 w gs A0 A1 c0 c1 l0 l1) (i : Nat) (hi : i < 2) (b0 : Bytes l0) (b1 : Bytes l1) (m0 : l0.length ≤ 70) (m1 : l1.length ≤ 70) (k0 : l0.length ≤ c0) (k1 : l1.length ≤ c1) :
    ∃ A X c, w.cell? ⟨gs, i, none⟩ = some (.slice A X.length c) ∧ Kd.C (Kd.int .u8) w A X.length X ∧ X.length ≤ c ∧ Bytes X ∧ X.length ≤ 70 := by
  match i, hi with
  | 0, _ => exact ⟨A0, l0, c0, (blk_cell h.s 0).trans rfl, h.r0, k0, b0, m0⟩
  | 1, _ => exact ⟨A1, l1, c1, (blk_cell h.s 1).trans rfl, h.r1, k1, b1, m1⟩
set_option maxHeartbeats 4000000 in
theorem reads_long (n0 n1 n2 n3 n4 n5 a2 a3 a4 a5 : Int) (A0 : Option Addr) (c0 : Nat) (l0 : List Int) (w : World) (hg : 40 < l0.length) :
    Calls Tryd.prog 5 #[.slice A0 l0.length c0, .agg #[.int .u8 n0, .int .i64 n1, .int .i64 n2, .int .i64 n3, .int .i64 n4, .int .u8 n5], .int .u8 a2, .int .u8 a3, .int .u8 a4, .int .u8 a5] w fun e w' => e = .returned (.bool true) ∧ Below w.heap.size w w' := by
  go_enter Tryd.func5, Tryd.ntmps5
  go_wp2_with fail
  go_at_call 11
  refine (awake_c _).mono ?_
  rintro e w1 ⟨rfl, hb⟩
  have HB1 := Aside0.mk ((below_alloc (Below.refl w.heap.size w) _).trans (hb.mono (by simp)))
  clear hb
  go_wp2_with fail
  go_at_call 11
  refine (awake_c _).mono ?_
  rintro e w2 ⟨rfl, hb⟩
  have HB2 := Aside0.mk (HB1.out.trans (hb.mono HB1.out.size))
  clear hb
  go_wp2_with fail
  go_ret
  exact ⟨rfl, HB2.out⟩
def reads.T12 : Bool × List (List Nat × List Nat) := (true, [([], []), ([0], [0]), ([1], [1]), ([2], [2]), ([3, 2, 2], [2, 3]), ([4, 2], [2, 4]), ([5, 4, 2], [2, 5]), ([6], [6]), ([7, 6, 6], [6, 7]), ([8, 6], [6, 8]), ([6], [6]), ([10, 6], [6, 10]), ([9, 11, 6], [6, 9, 11]), ([6, 12, 2], [2, 6, 12]), ([2, 13], [2, 13]), ([14, 8], [14]), ([15], [15]), ([16, 15], [15, 16]), ([17, 15, 15], [15, 17]), ([18], [18]), ([19, 18], [18, 19]), ([18, 20, 15], [15, 18, 20]), ([15, 21], [15, 21])])
def reads.B12 : List Nat := [0, 1, 3, 7, 15, 31, 63, 127, 255, 511, 127, 1151, 4095, 8191, 16383, 32767, 65535, 131071, 262143, 524287, 1048575, 2097151, 4194303]
theorem reads.tab12 : rtab .any (opsOf Tryd.f5 12) = reads.T12 := by kernel_rfl
theorem reads.bits12 : waitsOk reads.T12.2 reads.B12 = true := by kernel_rfl
set_option maxHeartbeats 8000000 in
theorem reads_short (n0 n1 n2 n3 n4 n5 a2 a3 a4 a5 : Int) (A0 : Option Addr) (c0 : Nat) (l0 : List Int) (w : World) (hw0 : (Lit.int .u8 n0).wf = true) (hw5 : (Lit.int .u8 n5).wf = true) (h2 : 0 ≤ a2 ∧ a2 < 256) (h3 : 0 ≤ a3 ∧ a3 < 256) (h4 : 0 ≤ a4 ∧ a4 < 256) (h5 : 0 ≤ a5 ∧ a5 < 256)
    (hr : Kd.C (Kd.int .u8) w A0 l0.length l0) (hc : l0.length ≤ c0) (hl : Bytes l0) (hG : G w) (hg : ¬ 40 < l0.length) :
    Calls Tryd.prog 5 #[.slice A0 l0.length c0, .agg #[.int .u8 n0, .int .i64 n1, .int .i64 n2, .int .i64 n3, .int .i64 n4, .int .u8 n5], .int .u8 a2, .int .u8 a3, .int .u8 a4, .int .u8 a5] w fun e w' => e = .returned (.bool true) ∧ Below w.heap.size w w' := by
  have HG := Aside0.mk hG
  have HR := Aside0.mk hr
  have HC := Aside0.mk hc
  have HL := Aside0.mk hl
  have H2 := Aside0.mk h2
  have H3 := Aside0.mk h3
  have H4 := Aside0.mk h4
  have H5 := Aside0.mk h5
  have HW0 := Aside0.mk hw0
  have HW5 := Aside0.mk hw5
  clear hG hr hc hl h2 h3 h4 h5 hw0 hw5
  go_enter Tryd.func5, Tryd.ntmps5
  go_wp2_with fail
  go_at_call 11
  refine (awake_c _).mono ?_
  rintro e w1 ⟨rfl, hb⟩
  have HB1 := Aside0.mk ((below_alloc (Below.refl w.heap.size w) _).trans (hb.mono (by simp)))
  have HN1 := Aside0.mk (blk_below (blk_new w (.cells #[.int .u8 n0, .int .i64 n1, .int .i64 n2, .int .i64 n3, .int .i64 n4, .int .u8 n5] 23)) hb)
  clear hb
  go_wp2_with fail
  go_at_call 12
  refine (pack_New.calls [] 0 _ rfl).mono ?_
  rintro e w2 ⟨u0, gx, rfl, ho, hbx, hge, hb⟩
  have HO2 := Aside0.mk ho
  have HX2 := Aside0.mk hbx
  have HGE := Aside0.mk hge
  have HB2 := Aside0.mk hb
  obtain ⟨x0, x1, x2, x3, x4, x5, y0, y1, y2, y3, y4, y5⟩ := bxc6 (blk_below HN1.out hb)
  clear ho hbx hge hb HN1
  go_wp2_with fail
  go_at_call 6
  refine (near_c _ _ _ _ _ _ _ HW0.out HW5.out).mono ?_
  rintro r w3 ⟨a, b, c, d, e, v, rfl, hRt, hb⟩
  have HRt := Aside0.mk hRt
  have HO3 := Aside0.mk (Kd.R_below HO2.out hb)
  have HX3 := Aside0.mk (blk_below HX2.out hb)
  have HB3 := Aside0.mk (HB2.out.trans (hb.mono HB2.out.size))
  clear hb hRt x0 x1 x2 x3 x4 x5 y0 y1 y2 y3 y4 y5 HO2 HX2 HB2
  clear w2
  go_wp2_with fail
  go_at_call 13
  refine (put_c gx u0 w1 w3 HRt.out HB3.out HX3.out HGE.out HO3.out).mono ?_
  rintro r w4 ⟨u1, rfl, ho, hbx, hb⟩
  obtain ⟨s, hs⟩ : ∃ s, s = packsI [a, b, c, d, e, v] := ⟨_, rfl⟩
  rw [← hs] at ho
  have hsl : 0 < s.length ∧ s.length ≤ 66 := by
    rw [hs]
    exact ⟨by have := packI_pos a; simp [packsI]; omega, notice_len HRt.out⟩
  have HSB : Aside0 (Bytes s) := ⟨by rw [hs]; exact packsI_byt _⟩
  have HO4 := Aside0.mk ho
  have HX4 := Aside0.mk hbx
  have HB4 := Aside0.mk hb
  clear hs ho hbx hb HO3 HX3 HB3
  clear w3
  obtain ⟨hs0, hs66⟩ := hsl
  go_wp2_with fail
  go_at_call 14
  refine (done_c gx u1 s w1 w4 (by omega) HB4.out HX4.out HGE.out HO4.out).mono ?_
  rintro r w5 ⟨vd, rfl, ho, hb⟩
  have HO5 := Aside0.mk ho
  have HB5 := Aside0.mk hb
  clear ho hb HO4 HX4 HB4
  clear w4
  obtain ⟨k, hk, hks⟩ := index_of (len := s.length) H2.out hs0
  obtain ⟨gt, ct, et, hgt, hct, htc, htf⟩ := row_at HO5.out k hks
  subst et
  obtain ⟨xk, hxk⟩ : ∃ x, x = s.getD k 0 := ⟨_, rfl⟩
  have hxB : 0 ≤ xk ∧ xk < 256 := by
    rw [hxk, List.getD_eq_getElem?_getD, List.getElem?_eq_getElem hks]
    exact HSB.out _ (List.getElem_mem hks)
  rw [← hxk] at htc
  have HXB := Aside0.mk hxB
  clear hxk hxB
  go_wp2_with fail
  obtain ⟨y, hy⟩ : ∃ y, y = Go.bits .xor .u8 xk a3 := ⟨_, rfl⟩
  have hyB : 0 ≤ y ∧ y < 256 := by rw [hy]; obtain ⟨q0, q1, _, _⟩ := Go.Proofs.YtlbfmpjkdoecbaaDoor.Pure.u8_xor xk a3 HXB.out.1 HXB.out.2 H3.out.1 H3.out.2; exact ⟨q0, q1⟩
  rw [← hy]
  obtain ⟨T, hT⟩ : ∃ T, T = s.set k y := ⟨_, rfl⟩
  have hTl : T.length = s.length := by rw [hT, List.length_set]
  have HTB : Aside0 (Bytes T) := ⟨fun z hz => by
    rw [hT] at hz
    rcases List.mem_or_eq_of_mem_set hz with hz | rfl
    · exact HSB.out z hz
    · exact hyB⟩
  obtain ⟨W, hW⟩ : ∃ W, W = (w5.setCell ⟨gt, k, none⟩ (.int .u8 y)).alloc (.cells #[.slice A0 l0.length c0, .slice (some ⟨gt, 0, none⟩) s.length ct] 25) := ⟨_, rfl⟩
  have hT5 := Kd.R_alloc (Kd.R_putn HO5.out (k : Int) y) (.cells #[.slice A0 l0.length c0, .slice (some ⟨gt, 0, none⟩) s.length ct] 25)
  have hb5 : Below w.heap.size w (w5.setCell ⟨gt, k, none⟩ (.int .u8 y)) := HB1.out.trans ((below_set HB5.out hgt).mono HB1.out.size)
  have hTwo : Two w W w5.heap.size A0 (some ⟨gt, 0, none⟩) c0 ct l0 T := by
    rw [hW]
    refine ⟨below_alloc hb5 _, ?_, Kd.C_alloc (Kd.C_below HR.out hb5) _, ?_⟩
    · rw [hTl]
      have h7 := blk_new (w5.setCell ⟨gt, k, none⟩ (.int .u8 y)) (.cells #[.slice A0 l0.length c0, .slice (some ⟨gt, 0, none⟩) s.length ct] 25)
      simpa [World.setCell] using h7
    · rw [hT]
      exact (Kd.R_reads' hT5).2.2
  rw [← hW]
  obtain ⟨gs, hgs⟩ : ∃ gs, gs = w5.heap.size := ⟨_, rfl⟩
  rw [← hgs] at hTwo ⊢
  have HTW := Aside0.mk hTwo
  have HTL : Aside0 (T.length ≤ 70 ∧ T.length ≤ ct) := ⟨by omega⟩
  have ha4 : 0 ≤ a4 := H4.out.1
  have ha5 : 0 ≤ a5 := H5.out.1
  obtain ⟨b4, hb4⟩ : ∃ x, x = a4 % 2 := ⟨_, rfl⟩
  obtain ⟨b5, hb5'⟩ : ∃ x, x = a5 % 2 := ⟨_, rfl⟩
  have HZ4 : Aside0 (0 ≤ b4 ∧ b4 < 4294967296) := ⟨by omega⟩
  have HZ5 : Aside0 (0 ≤ b5 ∧ b5 < 4294967296) := ⟨by omega⟩
  have E4 := Aside0.mk hb4
  have E5 := Aside0.mk hb5'
  clear hTwo hgs hW hT5 hb5 hT hTl hy hyB htc htf hgt hct hk hks HO5 HB5 HSB HXB HB1 HGE hs0 hs66 hb4 hb5'
  clear w5
  go_wp2_with fail
  go_loopg [50] 2 (fun kq v50 wr => ∃ i : Nat, v50 = .int .i64 i ∧ i ≤ 2 ∧ Aside0 (kq = 2 - i) ∧ Aside0 (Two w wr gs A0 (some ⟨gt, 0, none⟩) c0 ct l0 T))
  case atStart => exact ⟨0, rfl, by omega, ⟨rfl⟩, HTW⟩
  case round =>
    clear HTW
    clear W
    obtain ⟨i, rfl, hi2, hk, HT⟩ := hrel
    by_cases hlt : i < 2
    · obtain ⟨AX, X, cX, hcell, hrX, hcX, hbX, hmX⟩ := HT.out.at i hlt HL.out HTB.out (by omega) HTL.out.1 HC.out HTL.out.2
      have HRX := Aside0.mk hrX
      have HCX := Aside0.mk hcX
      have HBX := Aside0.mk hbX
      clear hrX hcX hbX
      go_wp2_with fail
      rw [← E4.out, ← E5.out]
      go_at_call 9
      refine (close_c b4 b5 AX cX X wr HRX.out HCX.out HBX.out (by omega) HZ4.out HZ5.out).mono ?_
      rintro e w6 ⟨v, rfl, hv, hb⟩
      obtain ⟨t, ht⟩ : ∃ t, t = closeI b4 b5 X := ⟨_, rfl⟩
      rw [← ht] at hv
      have htB : Bytes t := by rw [ht]; exact closeI_bytes HBX.out
      have htl : t.length ≤ 86 := by rw [ht, closeI_length]; omega
      have HT6 := Aside0.mk (HT.out.below hb)
      obtain ⟨As, cs, es⟩ := Kd.R_slice hv
      subst es
      have HV6 := Aside0.mk (Kd.R_reads' hv).2.2
      have HVC := Aside0.mk (Kd.R_reads' hv).2.1
      clear ht hv hb hcell HT HRX HCX HBX
      rcases decode_any htB (by omega) with hz | ⟨p0, p1, p2, p3, p4, p5, hpr, hpl⟩
      · have HZ := Aside0.mk hz
        clear hz htB
        go_wp2_with fail
        go_at_call 8
        refine (decode_c As cs w6 HV6.out HVC.out (Kd.C_below HG.out HT6.out.b) HZ.out).mono ?_
        rintro r w7 ⟨rfl, hb⟩
        have HT7 := Aside0.mk ((HT6.out.below hb).below (below_alloc (Below.refl _ _) (.cells #[.int .u8 0, .int .i64 0, .int .i64 0, .int .i64 0, .int .i64 0, .int .u8 0] 23)))
        clear hb HT6 HV6
        go_wp2_with fail
        go_quiet (fail)
        go_wp2_with fail
        go_roundg (2 - (i + 1))
        case measure => have := hk.out; omega
        case rel => exact ⟨i + 1, by go_num, by omega, ⟨rfl⟩, ⟨by first | exact HT7.out | exact HT7.out.drewN _⟩⟩
      · have HZ := Aside0.mk (decode_ev hpr)
        rw [← hpl] at HZ
        have HP := Aside0.mk hpr
        have HPL := Aside0.mk hpl
        clear hpr hpl htB
        go_wp2_with fail
        go_at_call 8
        refine (decode_c As cs w6 HV6.out HVC.out (Kd.C_below HG.out HT6.out.b) HZ.out).mono ?_
        rintro r w7 ⟨rfl, hb⟩
        have HT7 := Aside0.mk (HT6.out.below hb)
        have HV7 := Aside0.mk (Kd.C_below HV6.out hb)
        clear hb HT6 HV6
        go_wp2_with fail
        obtain ⟨W, hW⟩ : ∃ W, W = w7.alloc (.cells #[.int .u8 p0, .int .i64 p1, .int .i64 p2, .int .i64 p3, .int .i64 p4, .int .u8 p5] 23) := ⟨_, rfl⟩
        have hbk : W.heap[w7.heap.size]? = some (.cells #[.int .u8 p0, .int .i64 p1, .int .i64 p2, .int .i64 p3, .int .i64 p4, .int .u8 p5] 23 (0, 0)) := by rw [hW]; exact blk_new _ _
        have HTW : Aside0 (Two w W gs A0 (some ⟨gt, 0, none⟩) c0 ct l0 T) := ⟨by rw [hW]; exact HT7.out.below (below_alloc (Below.refl _ _) _)⟩
        have HCW : Aside0 (Kd.C (Kd.int .u8) W As t.length t) := ⟨by rw [hW]; exact Kd.C_alloc HV7.out _⟩
        obtain ⟨gm, hgm⟩ : ∃ gm, gm = w7.heap.size := ⟨_, rfl⟩
        rw [← hW, ← hgm]
        rw [← hgm] at hbk
        clear hW hgm HT7 HV7 HZ
        clear w7
        obtain ⟨x0, x1, x2, x3, x4, x5, y0, y1, y2, y3, y4, y5⟩ := bxc6 hbk
        clear hbk y0 y1 y2 y3 y4 y5
        have hcpd := Kd.C_string (P := Tryd.prog) (c := cs) Tryd.underlying25 Tryd.underlying5 Tryd.underlying9 (Kd.C_drew HCW.out)
        have hxl : gm < W.heap.size := World.block_lt_of_cell? W _ x0
        have X0 := Aside0.mk x0
        have X1 := Aside0.mk x1
        have X2 := Aside0.mk x2
        have X3 := Aside0.mk x3
        have X4 := Aside0.mk x4
        have X5 := Aside0.mk x5
        have HXL := Aside0.mk hxl
        clear hxl
        refine start_ (n := 23) (S := fun w' => w'.cell? ⟨gm, 0, none⟩ = some (.int .u8 p0) ∧ w'.cell? ⟨gm, 1, none⟩ = some (.int .i64 p1) ∧ w'.cell? ⟨gm, 2, none⟩ = some (.int .i64 p2) ∧ w'.cell? ⟨gm, 3, none⟩ = some (.int .i64 p3) ∧ w'.cell? ⟨gm, 4, none⟩ = some (.int .i64 p4) ∧ w'.cell? ⟨gm, 5, none⟩ = some (.int .u8 p5) ∧ Go.Sem.run Tryd.prog (Go.convert 25 9 (.slice As t.length cs)) w' = .ok (.string (strOfNums t)) w') (ds := []) #[false, false, false, false, false, false, false, false, false, false, false, false, false, false, false, false, false, false, false, false, false, false, false] (by kernel_rfl) rfl rfl ⟨x0, x1, x2, x3, x4, x5, hcpd⟩ (fun hHeld => ?_)
        refine with_tabW reads.tab12 reads.bits12 (fun HT_ HW_ => ?_)
        refine pure_ (i := 0) (N := some 67) (v := ?_) (a' := ?_) #[true, false, false, false, false, false, false, false, false, false, false, false, false, false, false, false, false, false, false, false, false, false, false] rfl rfl (any_of HT_.out (by kernel_rfl)) (fun _ _ _ h => h) (Or.inl ⟨by rfl, ?_⟩) ?_ ?_
        rotate_left
        · intro w'
          go_simp
          with_reducible rfl
        rotate_left
        · simp only [Act.put, List.setIfInBounds_toArray, List.set_cons_zero, List.set_cons_succ, i64_w, i32_w]
          rfl
        refine pure_ (i := 1) (N := some 68) (v := ?_) (a' := ?_) #[true, true, false, false, false, false, false, false, false, false, false, false, false, false, false, false, false, false, false, false, false, false, false] rfl rfl (any_of HT_.out (by kernel_rfl)) (fun _ _ _ h => h) (Or.inl ⟨by rfl, ?_⟩) ?_ ?_
        rotate_left
        · intro w'
          go_simp
          with_reducible rfl
        rotate_left
        · simp only [Act.put, List.setIfInBounds_toArray, List.set_cons_zero, List.set_cons_succ, i64_w, i32_w]
          rfl
        refine pure_ (i := 2) (N := some 69) (v := ?_) (a' := ?_) #[true, true, true, false, false, false, false, false, false, false, false, false, false, false, false, false, false, false, false, false, false, false, false] rfl rfl (any_of HT_.out (by kernel_rfl)) (fun _ _ _ h => h) (Or.inl ⟨by rfl, ?_⟩) ?_ ?_
        rotate_left
        · intro w'
          go_simp
          with_reducible rfl
        rotate_left
        · simp only [Act.put, List.setIfInBounds_toArray, List.set_cons_zero, List.set_cons_succ, i64_w, i32_w]
          rfl
        refine take_ (i := 3) (N := some 70) (v := ?_) (a' := ?_) #[true, true, true, true, false, false, false, false, false, false, false, false, false, false, false, false, false, false, false, false, false, false, false] rfl rfl (take_ofW HT_.out HW_.out (by kernel_rfl)) (fun _ _ _ h => h) (Or.inl ⟨by rfl, ?_⟩) hHeld ?_ ?_
        rotate_left
        · rintro w' ⟨s0, s1, s2, s3, s4, s5, s6⟩
          go_simp
          with_reducible rfl
        rotate_left
        · simp only [Act.put, List.setIfInBounds_toArray, List.set_cons_zero, List.set_cons_succ, i64_w, i32_w]
          rfl
        refine one_ (i := 4) (N := some 71) #[true, true, true, true, true, false, false, false, false, false, false, false, false, false, false, false, false, false, false, false, false, false, false] rfl rfl (one_of HT_.out (by kernel_rfl)) (by decide) (fun K hK => ?_)
        refine goes_ Tryd.func15 (by kernel_rfl) rfl #[.agg #[.int .u8 p0, .int .i64 p1, .int .i64 p2, .int .i64 p3, .int .i64 p4, .int .u8 p5]] (by rfl) rfl rfl (by simp only [List.map_toArray, List.map_cons, List.map_nil]; rfl) ?_
        with_reducible refine (right_c W.drew HP.out).mono ?_
        rintro r w13 ⟨rfl, hb13⟩
        refine ⟨_, rfl, ?_⟩
        have hv13 := Kd.C_below (Kd.C_drew HCW.out) hb13
        have hcq := Kd.C_string (P := Tryd.prog) (c := cs) Tryd.underlying25 Tryd.underlying5 Tryd.underlying9 hv13
        have k0 := (hb13.cell (p := ⟨gm, 0, none⟩) HXL.out).trans X0.out
        have k1 := (hb13.cell (p := ⟨gm, 1, none⟩) HXL.out).trans X1.out
        have k2 := (hb13.cell (p := ⟨gm, 2, none⟩) HXL.out).trans X2.out
        have k3 := (hb13.cell (p := ⟨gm, 3, none⟩) HXL.out).trans X3.out
        have k4 := (hb13.cell (p := ⟨gm, 4, none⟩) HXL.out).trans X4.out
        have k5 := (hb13.cell (p := ⟨gm, 5, none⟩) HXL.out).trans X5.out
        have HB13 := Aside0.mk hb13
        have HV13 := Aside0.mk hv13
        clear hb13 hv13
        refine hK.out _ _ ⟨k0, k1, k2, k3, k4, k5, hcq⟩ (fun hHeld => ?_)
        clear hK K
        refine norm_ (a' := ?_) ?_ ?_
        rotate_left
        · show Act.put _ (some 71) _ = _
          simp only [Act.put, List.setIfInBounds_toArray, List.set_cons_zero, List.set_cons_succ, i64_w, i32_w]
          rfl
        refine pure_ (i := 5) (N := some 72) (v := ?_) (a' := ?_) #[true, true, true, true, true, true, false, false, false, false, false, false, false, false, false, false, false, false, false, false, false, false, false] rfl rfl (any_of HT_.out (by kernel_rfl)) (fun _ _ _ h => h) (Or.inl ⟨by rfl, ?_⟩) ?_ ?_
        rotate_left
        · intro w'
          go_simp
          with_reducible rfl
        rotate_left
        · simp only [Act.put, List.setIfInBounds_toArray, List.set_cons_zero, List.set_cons_succ, i64_w, i32_w]
          rfl
        refine pure_ (i := 6) (N := some 73) (v := ?_) (a' := ?_) #[true, true, true, true, true, true, true, false, false, false, false, false, false, false, false, false, false, false, false, false, false, false, false] rfl rfl (any_of HT_.out (by kernel_rfl)) (fun _ _ _ h => h) (Or.inl ⟨by rfl, ?_⟩) ?_ ?_
        rotate_left
        · intro w'
          go_simp
          with_reducible rfl
        rotate_left
        · simp only [Act.put, List.setIfInBounds_toArray, List.set_cons_zero, List.set_cons_succ, i64_w, i32_w]
          rfl
        refine pure_ (i := 10) (N := some 77) (v := ?_) (a' := ?_) #[true, true, true, true, true, true, true, false, false, false, true, false, false, false, false, false, false, false, false, false, false, false, false] rfl rfl (any_of HT_.out (by kernel_rfl)) (fun _ _ _ h => h) (Or.inl ⟨by rfl, ?_⟩) ?_ ?_
        rotate_left
        · intro w'
          go_simp
          with_reducible rfl
        rotate_left
        · simp only [Act.put, List.setIfInBounds_toArray, List.set_cons_zero, List.set_cons_succ, i64_w, i32_w]
          rfl
        refine take_ (i := 7) (N := some 74) (v := ?_) (a' := ?_) #[true, true, true, true, true, true, true, true, false, false, true, false, false, false, false, false, false, false, false, false, false, false, false] rfl rfl (take_ofW HT_.out HW_.out (by kernel_rfl)) (fun _ _ _ h => h) (Or.inl ⟨by rfl, ?_⟩) hHeld ?_ ?_
        rotate_left
        · rintro w' ⟨s0, s1, s2, s3, s4, s5, s6⟩
          go_simp
          with_reducible rfl
        rotate_left
        · simp only [Act.put, List.setIfInBounds_toArray, List.set_cons_zero, List.set_cons_succ, i64_w, i32_w]
          rfl
        refine take_ (i := 11) (N := some 78) (v := ?_) (a' := ?_) #[true, true, true, true, true, true, true, true, false, false, true, true, false, false, false, false, false, false, false, false, false, false, false] rfl rfl (take_ofW HT_.out HW_.out (by kernel_rfl)) (fun _ _ _ h => h) (Or.inl ⟨by rfl, ?_⟩) hHeld ?_ ?_
        rotate_left
        · rintro w' ⟨s0, s1, s2, s3, s4, s5, s6⟩
          go_simp
          with_reducible rfl
        rotate_left
        · simp only [Act.put, List.setIfInBounds_toArray, List.set_cons_zero, List.set_cons_succ, i64_w, i32_w]
          rfl
        refine one_ (i := 8) (N := some 75) #[true, true, true, true, true, true, true, true, true, false, true, true, false, false, false, false, false, false, false, false, false, false, false] rfl rfl (one_of HT_.out (by kernel_rfl)) (by decide) (fun K hK => ?_)
        refine goes_ Tryd.func7 (by kernel_rfl) rfl #[.agg #[.int .u8 p0, .int .i64 p1, .int .i64 p2, .int .i64 p3, .int .i64 p4, .int .u8 p5]] (by rfl) rfl rfl (by simp only [List.map_toArray, List.map_cons, List.map_nil]; rfl) ?_
        with_reducible refine (encode_l w13 (Kd.C_below (Kd.C_drew (Kd.C_below HG.out HTW.out.b)) HB13.out) HP.out HPL.out).mono ?_
        rintro r w14 ⟨x, rfl, hx, hb14⟩
        refine ⟨_, rfl, ?_⟩
        have hcx := own_string (P := Tryd.prog) Tryd.underlying25 Tryd.underlying5 Tryd.underlying9 (Kd.own_of_R hx)
        have hcr := Kd.C_string (P := Tryd.prog) (c := cs) Tryd.underlying25 Tryd.underlying5 Tryd.underlying9 (Kd.C_below HV13.out hb14)
        have m0 := (hb14.cell (p := ⟨gm, 0, none⟩) (Nat.lt_of_lt_of_le HXL.out HB13.out.size)).trans k0
        have m1 := (hb14.cell (p := ⟨gm, 1, none⟩) (Nat.lt_of_lt_of_le HXL.out HB13.out.size)).trans k1
        have m2 := (hb14.cell (p := ⟨gm, 2, none⟩) (Nat.lt_of_lt_of_le HXL.out HB13.out.size)).trans k2
        have m3 := (hb14.cell (p := ⟨gm, 3, none⟩) (Nat.lt_of_lt_of_le HXL.out HB13.out.size)).trans k3
        have m4 := (hb14.cell (p := ⟨gm, 4, none⟩) (Nat.lt_of_lt_of_le HXL.out HB13.out.size)).trans k4
        have m5 := (hb14.cell (p := ⟨gm, 5, none⟩) (Nat.lt_of_lt_of_le HXL.out HB13.out.size)).trans k5
        have HTE := Aside0.mk ((HTW.out.drew.below HB13.out).below hb14)
        clear hx hb14
        refine hK.out _ _ ⟨m0, m1, m2, m3, m4, m5, hcr⟩ (fun hHeld => ?_)
        clear hK K
        refine norm_ (a' := ?_) ?_ ?_
        rotate_left
        · show Act.put _ (some 75) _ = _
          simp only [Act.put, List.setIfInBounds_toArray, List.set_cons_zero, List.set_cons_succ, i64_w, i32_w]
          rfl
        refine one_ (i := 9) (N := some 76) #[true, true, true, true, true, true, true, true, true, true, true, true, false, false, false, false, false, false, false, false, false, false, false] rfl rfl (one_of HT_.out (by kernel_rfl)) (by decide) (fun K hK => ?_)
        refine value_ (w1 := ?_) (v := ?_) (by rfl) rfl ?_ ?_
        rotate_left 2
        · go_simp
          constructor
          · rfl
          · rfl
        refine hK.out _ _ ⟨m0, m1, m2, m3, m4, m5, hcr⟩ (fun hHeld => ?_)
        clear hK K
        refine norm_ (a' := ?_) ?_ ?_
        rotate_left
        · show Act.put _ (some 76) _ = _
          simp only [Act.put, List.setIfInBounds_toArray, List.set_cons_zero, List.set_cons_succ, i64_w, i32_w]
          rfl
        refine pure_ (i := 12) (N := some 79) (v := ?_) (a' := ?_) #[true, true, true, true, true, true, true, true, true, true, true, true, true, false, false, false, false, false, false, false, false, false, false] rfl rfl (any_of HT_.out (by kernel_rfl)) (fun _ _ _ h => h) (Or.inl ⟨by rfl, ?_⟩) ?_ ?_
        rotate_left
        · intro w'
          go_simp
          with_reducible rfl
        rotate_left
        · simp only [Act.put, List.setIfInBounds_toArray, List.set_cons_zero, List.set_cons_succ, i64_w, i32_w]
          rfl
        refine pure_ (i := 13) (N := some 80) (v := ?_) (a' := ?_) #[true, true, true, true, true, true, true, true, true, true, true, true, true, true, false, false, false, false, false, false, false, false, false] rfl rfl (any_of HT_.out (by kernel_rfl)) (fun _ _ _ h => h) (Or.inl ⟨by rfl, ?_⟩) ?_ ?_
        rotate_left
        · intro w'
          go_simp
          with_reducible rfl
        rotate_left
        · simp only [Act.put, List.setIfInBounds_toArray, List.set_cons_zero, List.set_cons_succ, i64_w, i32_w]
          rfl
        refine pure_ (i := 14) (N := some 81) (v := ?_) (a' := ?_) #[true, true, true, true, true, true, true, true, true, true, true, true, true, true, true, false, false, false, false, false, false, false, false] rfl rfl (any_of HT_.out (by kernel_rfl)) (fun _ _ _ h => h) (Or.inl ⟨by rfl, ?_⟩) ?_ ?_
        rotate_left
        · intro w'
          go_simp
          with_reducible rfl
        rotate_left
        · simp only [Act.put, List.setIfInBounds_toArray, List.set_cons_zero, List.set_cons_succ, i64_w, i32_w]
          rfl
        refine pure_ (i := 15) (N := some 82) (v := ?_) (a' := ?_) #[true, true, true, true, true, true, true, true, true, true, true, true, true, true, true, true, false, false, false, false, false, false, false] rfl rfl (any_of HT_.out (by kernel_rfl)) (fun _ _ _ h => h) (Or.inl ⟨by rfl, ?_⟩) ?_ ?_
        rotate_left
        · intro w'
          go_simp
          with_reducible rfl
        rotate_left
        · simp only [Act.put, List.setIfInBounds_toArray, List.set_cons_zero, List.set_cons_succ, i64_w, i32_w]
          rfl
        refine pure_ (i := 16) (N := some 83) (v := ?_) (a' := ?_) #[true, true, true, true, true, true, true, true, true, true, true, true, true, true, true, true, true, false, false, false, false, false, false] rfl rfl (any_of HT_.out (by kernel_rfl)) (fun _ _ _ h => h) (Or.inl ⟨by rfl, ?_⟩) ?_ ?_
        rotate_left
        · intro w'
          go_simp
          with_reducible rfl
        rotate_left
        · simp only [Act.put, List.setIfInBounds_toArray, List.set_cons_zero, List.set_cons_succ, i64_w, i32_w]
          rfl
        refine pure_ (i := 17) (N := some 84) (v := ?_) (a' := ?_) #[true, true, true, true, true, true, true, true, true, true, true, true, true, true, true, true, true, true, false, false, false, false, false] rfl rfl (any_of HT_.out (by kernel_rfl)) (fun _ _ _ h => h) (Or.inl ⟨by rfl, ?_⟩) ?_ ?_
        rotate_left
        · intro w'
          go_simp
          with_reducible rfl
        rotate_left
        · simp only [Act.put, List.setIfInBounds_toArray, List.set_cons_zero, List.set_cons_succ, i64_w, i32_w]
          rfl
        refine pure_ (i := 18) (N := some 85) (v := ?_) (a' := ?_) #[true, true, true, true, true, true, true, true, true, true, true, true, true, true, true, true, true, true, true, false, false, false, false] rfl rfl (any_of HT_.out (by kernel_rfl)) (fun _ _ _ h => h) (Or.inl ⟨by rfl, ?_⟩) ?_ ?_
        rotate_left
        · intro w'
          go_simp
          with_reducible rfl
        rotate_left
        · simp only [Act.put, List.setIfInBounds_toArray, List.set_cons_zero, List.set_cons_succ, i64_w, i32_w]
          rfl
        refine pure_ (i := 19) (N := some 86) (v := undef) (a' := ?_) #[true, true, true, true, true, true, true, true, true, true, true, true, true, true, true, true, true, true, true, true, false, false, false] rfl rfl (any_of HT_.out (by kernel_rfl)) (fun _ _ _ h => h) (Or.inr ⟨by rfl, rfl⟩) ?_ ?_
        rotate_left
        · simp only [Act.put, List.setIfInBounds_toArray, List.set_cons_zero, List.set_cons_succ, i64_w, i32_w]
          rfl
        refine pure_ (i := 20) (N := some 87) (v := undef) (a' := ?_) #[true, true, true, true, true, true, true, true, true, true, true, true, true, true, true, true, true, true, true, true, true, false, false] rfl rfl (any_of HT_.out (by kernel_rfl)) (fun _ _ _ h => h) (Or.inr ⟨by rfl, rfl⟩) ?_ ?_
        rotate_left
        · simp only [Act.put, List.setIfInBounds_toArray, List.set_cons_zero, List.set_cons_succ, i64_w, i32_w]
          rfl
        refine pure_ (i := 21) (N := some 88) (v := ?_) (a' := ?_) #[true, true, true, true, true, true, true, true, true, true, true, true, true, true, true, true, true, true, true, true, true, true, false] rfl rfl (any_of HT_.out (by kernel_rfl)) (fun _ _ _ h => h) (Or.inl ⟨by rfl, ?_⟩) ?_ ?_
        rotate_left
        · intro w'
          go_simp
          with_reducible rfl
        rotate_left
        · simp only [Act.put, List.setIfInBounds_toArray, List.set_cons_zero, List.set_cons_succ, i64_w, i32_w]
          rfl
        refine pure_ (i := 22) (N := some 89) (v := ?_) (a' := ?_) #[true, true, true, true, true, true, true, true, true, true, true, true, true, true, true, true, true, true, true, true, true, true, true] rfl rfl (any_of HT_.out (by kernel_rfl)) (fun _ _ _ h => h) (Or.inl ⟨by rfl, ?_⟩) ?_ ?_
        rotate_left
        · intro w'
          go_simp
          with_reducible rfl
        rotate_left
        · simp only [Act.put, List.setIfInBounds_toArray, List.set_cons_zero, List.set_cons_succ, i64_w, i32_w]
          rfl
        refine done_ (done_of HT_.out (by kernel_rfl)) ?_
        go_wp2_with fail
        go_roundg (2 - (i + 1))
        case measure => have := hk.out; omega
        case rel => exact ⟨i + 1, by go_num, by omega, ⟨rfl⟩, HTE⟩
    · obtain rfl : i = 2 := by omega
      go_wp2_with fail
      go_ret
      exact ⟨rfl, HT.out.b⟩
theorem reads_any (n0 n1 n2 n3 n4 n5 a2 a3 a4 a5 : Int) (a0 : Option Addr) (len0 cap0 : Nat) (z0 : List Int) (w : World) (hw0 : (Lit.int .u8 n0).wf = true) (hw5 : (Lit.int .u8 n5).wf = true) (w2 : (Lit.int .u8 a2).wf = true) (w3 : (Lit.int .u8 a3).wf = true) (w4 : (Lit.int .u8 a4).wf = true) (w5 : (Lit.int .u8 a5).wf = true)
    (w0 : (a0 = none ∧ len0 = 0 ∧ cap0 = 0 ∧ z0 = []) ∨ ∃ x, a0 = some x ∧ len0 ≤ cap0 ∧ cap0 ≤ maxLen ∧ z0.length = cap0 ∧ (∀ i, i < z0.length → w.cell? (x.add i) = some (.int .u8 (z0.getD i 0))) ∧ ∀ n ∈ z0, (Lit.int .u8 n).wf = true) (hG : G w) :
    Calls Tryd.prog 5 #[.slice a0 len0 cap0, .agg #[.int .u8 n0, .int .i64 n1, .int .i64 n2, .int .i64 n3, .int .i64 n4, .int .u8 n5], .int .u8 a2, .int .u8 a3, .int .u8 a4, .int .u8 a5] w fun e w' => e = .returned (.bool true) ∧ Below w.heap.size w w' := by
  obtain ⟨l0, rfl, hr0, hm0, hw0', hc0⟩ := ReadsInt.ofRowC w0
  have hr := Kd.C_of_reads (d := (0 : Int)) (h1 := fun _ => rfl) hr0
  have b2 := bounds_u8 w2
  have b3 := bounds_u8 w3
  have b4 := bounds_u8 w4
  have b5 := bounds_u8 w5
  by_cases hg : 40 < l0.length
  · exact reads_long n0 n1 n2 n3 n4 n5 a2 a3 a4 a5 a0 cap0 l0 w hg
  · exact reads_short n0 n1 n2 n3 n4 n5 a2 a3 a4 a5 a0 cap0 l0 w hw0 hw5 (by omega) (by omega) (by omega) (by omega) hr hc0 (bytes_of hw0') hG hg
end Go.Proofs.YtlbfmpjkdoecbaaDoor
