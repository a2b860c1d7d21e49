/- NoticeTurns: a notice of which one byte is another one, that is cut, or has more behind it, is none; so are any bytes but a notice's. -/
import Derived.Test.YtlbfmpjkdoecbaaDoorPureNotice
import Derived.Test.YtlbfmpjkdoecbaaDoorWKept
import Derived.WalkKit
import Derived.Outline
import Derived.Deep.QuietTactic
import Derived.BigQuiet
import Derived.Deep.RegionWith
import Derived.Deep.RegionHeld3
import Derived.Deep.DeepCutAuto
import Derived.Laws.Rows
namespace Go.Proofs.YtlbfmpjkdoecbaaDoor
open Go.RowKit Go.Proofs.YtlbfmpjkdoecbaaDoor.PA Go.Proofs.YtlbfmpjkdoecbaaDoorW.PrintWords Go.Proofs.YtlbfmpjkdoecbaaDoorW.PrintLast Go.Proofs.YtlbfmpjkdoecbaaDoorW.PrintMore
open Go.Proofs.YtlbfmpjkdoecbaaDoor.Pure (Bytes closeI packsI closeI_bytes closeI_length packsI_byt turned_ev cut_ev more_ev decode_any decode_ev encode_ev near_f awake_f bytes_of notice_len)
set_option linter.unusedVariables false
set_option linter.unusedSimpArgs false
/-- A row of whole numbers that came in. -/
structure RowIn (k : IntKind) (w : World) (a : Option Addr) (len : Nat) (zs : List Int) : Prop where
  long : zs.length = len
  wf : ∀ n ∈ zs, (Lit.int k n).wf = true
  cell : ∀ i, i < len → ∃ x, a = some x ∧ w.cell? (x.add i) = some (.int k (zs.getD i 0))
abbrev G (w : World) : Prop := Kd.C (Kd.int .u32) w (some ⟨0, 0, none⟩) 16 gl0
theorem awake_c (w : World) : Calls Tryd.prog 11 #[] w fun e w' => e = .returned (.bool true) ∧ Below w.heap.size w w' := paybooklaw11_awake.calls 1 true w (awake_f 0)
theorem near_c (a b c d e v : Int) (w : World) (h0 : (Lit.int .u8 a).wf = true) (h5 : (Lit.int .u8 v).wf = true) :
    Calls Tryd.prog 6 #[.agg #[.int .u8 a, .int .i64 b, .int .i64 c, .int .i64 d, .int .i64 e, .int .u8 v]] w fun r w' => ∃ a' b' c' d' e' v', r = .returned (.agg #[.int .u8 a', .int .i64 b', .int .i64 c', .int .i64 d', .int .i64 e', .int .u8 v']) ∧ Pure.Right a' b' c' d' e' v' ∧ Below w.heap.size w w' := by
  obtain ⟨a', b', c', d', e', v', hf, ha, hb, hc, hd, he, hw⟩ := near_f a b c d e v (bounds_u8 h0) (bounds_u8 h5)
  exact (paybooklaw11_near.calls a b c d e v a' b' c' d' e' v' w hf).mono fun r w' ⟨h1, h2⟩ => ⟨a', b', c', d', e', v', h1, ⟨ha, hb, hc, hd, by omega, hw⟩, h2⟩
theorem encode_c {a b c d e v : Int} (w : World) (hG : G w) (h : Pure.Right a b c d e v) :
    Calls Tryd.prog 7 #[.agg #[.int .u8 a, .int .i64 b, .int .i64 c, .int .i64 d, .int .i64 e, .int .u8 v]] w fun r w' => ∃ x, r = .returned x ∧ Kd.R (Kd.int .u8) 5 w' w.heap.size (fun _ => True) x (closeI 0 0 (packsI [a, b, c, d, e, v])) ∧ Below w.heap.size w w' := by
  obtain ⟨k, hk⟩ := encode_ev h
  exact notice_Encode.calls k a b c d e v _ w hG (hk k (Nat.le_refl _))
theorem encode_l {a b c d e v : Int} {l : List Int} (w : World) (hG : G w) (h : Pure.Right a b c d e v) (hl : l = closeI 0 0 (packsI [a, b, c, d, e, v])) :
    Calls Tryd.prog 7 #[.agg #[.int .u8 a, .int .i64 b, .int .i64 c, .int .i64 d, .int .i64 e, .int .u8 v]] w fun r w' => ∃ x, r = .returned x ∧ Kd.R (Kd.int .u8) 5 w' w.heap.size (fun _ => True) x l ∧ Below w.heap.size w w' := by
  subst hl; exact encode_c w hG h
theorem decode_c {l : List Int} {a b c d e v f : Int} (A : Option Addr) (C : Nat) (w : World) (hr : Kd.C (Kd.int .u8) w A l.length l) (hc : l.length ≤ C) (hG : G w) (h : Ev (fun k => notice_Decode.f k l) (a, b, c, d, e, v, f)) :
    Calls Tryd.prog 8 #[.slice A l.length C] w fun r w' => r = .returned (.tuple #[.agg #[.int .u8 a, .int .i64 b, .int .i64 c, .int .i64 d, .int .i64 e, .int .u8 v], .int .i64 f]) ∧ Below w.heap.size w w' := by
  obtain ⟨k, hk⟩ := h
  exact notice_Decode.calls k A C l a b c d e v f w hr hc hG (hk k (Nat.le_refl _))
theorem C_same {w W : World} {A : Option Addr} {n : Nat} {xs : List Int} (h : Kd.C (Kd.int .u8) w A n xs) (e : W.heap = w.heap) : Kd.C (Kd.int .u8) W A n xs := (Kd.heap_int .u8).C (fun k _ => by rw [e]) h

set_option maxHeartbeats 4000000 in
theorem turns_long (n0 n1 n2 n3 n4 n5 a1 a2 a3 : Int) (A4 : Option Addr) (c4 : Nat) (l4 : List Int) (w : World) (hg : 60 < l4.length) :
    Calls Tryd.prog 4 #[.agg #[.int .u8 n0, .int .i64 n1, .int .i64 n2, .int .i64 n3, .int .i64 n4, .int .u8 n5], .int .u8 a1, .int .u8 a2, .int .u8 a3, .slice A4 l4.length c4] w fun e w' => e = .returned (.bool true) ∧ Below w.heap.size w w' := by
  go_enter Tryd.func4, Tryd.ntmps4
  go_wp2_with fail
  go_at_call 11
  refine (awake_c _).mono ?_
  rintro e w1 ⟨rfl, hb⟩
  have HB1 := Aside0.mk ((below_alloc (Below.refl w.heap.size w) _).trans (hb.mono (by simp)))
  clear hb
  go_wp2_with fail
  go_at_call 11
  refine (awake_c _).mono ?_
  rintro e w2 ⟨rfl, hb⟩
  have HB2 := Aside0.mk (HB1.out.trans (hb.mono HB1.out.size))
  clear hb
  go_wp2_with fail
  go_ret
  exact ⟨rfl, HB2.out⟩
theorem row_at {w : World} {base : Nat} {ok : Nat → Prop} {v : Value} {r : List Int} (h : Kd.R (Kd.int .u8) 5 w base ok v r) (k : Nat) (hk : k < r.length) :
    ∃ g c, v = .slice (some ⟨g, 0, none⟩) r.length c ∧ base ≤ g ∧ r.length ≤ c ∧ w.cell? ⟨g, k, none⟩ = some (.int .u8 (r.getD k 0)) ∧ w.frozen? ⟨g, k, none⟩ = false := by
  obtain ⟨h0, (⟨rfl, h1⟩ | ⟨g, cap, cur, rfl, h1, h2, h3, h4, h5, h6⟩)⟩ := Kd.own_of_R h
  · omega
  · have := Kd.R_celln (0 : Int) h (k : Int) (by omega) (by omega)
    refine ⟨g, cap, rfl, h1, (Kd.R_reads' h).2.1, ?_, this.2⟩
    have h8 := this.1
    simpa [rdOf] using h8
theorem one_row (w : World) (x : Int) : Kd.C (Kd.int .u8) (w.alloc (.cells #[.int .u8 x] 5)) (some ⟨w.heap.size, 0, none⟩) 1 [x] :=
  Kd.C_of_reads (d := (0 : Int)) (enc := Value.int .u8) (h1 := fun _ => rfl) ⟨rfl, by decide, fun _ => ⟨_, rfl, fun j hj => by
    obtain rfl : j = 0 := by omega
    simp [Addr.add]⟩⟩
theorem index_of {a : Int} {len : Nat} (h : 0 ≤ a ∧ a < 256) (hl : 0 < len) : ∃ k : Nat, (wrap64 a).tmod (len : Int) = (k : Int) ∧ k < len := by
  have e : wrap64 a = a := by unfold wrap64; omega
  have h0 := Int.emod_nonneg a (show (len : Int) ≠ 0 by omega)
  have h1 := Int.emod_lt_of_pos a (show 0 < (len : Int) by omega)
  exact ⟨(a % (len : Int)).toNat, by rw [e, Int.tmod_eq_emod_of_nonneg h.1, Int.toNat_of_nonneg h0], by omega⟩
def turns.T12 : Bool × List (List Nat × List Nat) := (true, [([], []), ([0], [0]), ([], []), ([2], [2]), ([1, 3], [1, 3]), ([4], [4]), ([5], [5]), ([6, 5], [5, 6]), ([5, 7], [5, 7]), ([8, 5], [8]), ([9], [9]), ([10, 9], [9, 10]), ([9, 11], [9, 11]), ([12, 9], [12]), ([13], [13]), ([14, 13], [13, 14]), ([15, 13, 13], [13, 15]), ([16], [16]), ([16], [16]), ([17, 18, 16], [16, 17, 18]), ([16, 19, 13], [13, 16, 19]), ([20, 16, 13], [13, 20]), ([21], [21]), ([22, 21], [21, 22]), ([23, 21, 21], [21, 23]), ([24], [24]), ([25, 24, 24], [24, 25]), ([26, 24], [24, 26]), ([24], [24]), ([28, 24], [24, 28]), ([27, 29, 24], [24, 27, 29]), ([24, 30, 21], [21, 24, 30]), ([21, 31, 13], [13, 21, 31]), ([13, 32], [13, 32]), ([33, 26, 0, 1, 2, 3, 4, 5, 6, 7, 8, 9, 10, 11, 12, 13, 14, 15, 16, 17, 18, 19, 20, 21, 22, 23, 24, 25, 26, 27, 28, 29, 30, 31, 32, 33], [33])])
def turns.B12 : List Nat := [0, 1, 0, 4, 15, 31, 63, 127, 255, 511, 1023, 2047, 4095, 8191, 16383, 32767, 65535, 131071, 131071, 524287, 1048575, 2097151, 4194303, 8388607, 16777215, 33554431, 67108863, 134217727, 33554431, 301989887, 1073741823, 2147483647, 4294967295, 8589934591, 17179869183]
theorem turns.tab12 : rtab .any (opsOf Tryd.f4 12) = turns.T12 := by kernel_rfl
theorem turns.bits12 : waitsOk turns.T12.2 turns.B12 = true := by kernel_rfl
set_option maxHeartbeats 8000000 in
theorem turns_short (n0 n1 n2 n3 n4 n5 a1 a2 a3 : Int) (A4 : Option Addr) (c4 : Nat) (l4 : List Int) (w : World) (hw0 : (Lit.int .u8 n0).wf = true) (hw5 : (Lit.int .u8 n5).wf = true) (h1 : 0 ≤ a1 ∧ a1 < 256) (h2 : 0 ≤ a2 ∧ a2 < 256) (h3 : 0 ≤ a3 ∧ a3 < 256)
    (hr : Kd.C (Kd.int .u8) w A4 l4.length l4) (hc : l4.length ≤ c4) (hl : Bytes l4) (hG : G w) (hg : ¬ 60 < l4.length) :
    Calls Tryd.prog 4 #[.agg #[.int .u8 n0, .int .i64 n1, .int .i64 n2, .int .i64 n3, .int .i64 n4, .int .u8 n5], .int .u8 a1, .int .u8 a2, .int .u8 a3, .slice A4 l4.length c4] w fun e w' => e = .returned (.bool true) ∧ Below w.heap.size w w' := by
  have HG := Aside0.mk hG
  have HR := Aside0.mk hr
  have HC := Aside0.mk hc
  have HL := Aside0.mk hl
  have H1 := Aside0.mk h1
  have H2 := Aside0.mk h2
  have H3 := Aside0.mk h3
  have HW0 := Aside0.mk hw0
  have HW5 := Aside0.mk hw5
  clear hG hr hc hl h1 h2 h3 hw0 hw5
  go_enter Tryd.func4, Tryd.ntmps4
  go_wp2_with fail
  go_at_call 11
  refine (awake_c _).mono ?_
  rintro e w1 ⟨rfl, hb⟩
  have HB1 := Aside0.mk ((below_alloc (Below.refl w.heap.size w) _).trans (hb.mono (by simp)))
  have hk0 := blk_below (blk_new w (.cells #[.int .u8 n0, .int .i64 n1, .int .i64 n2, .int .i64 n3, .int .i64 n4, .int .u8 n5] 23)) hb
  obtain ⟨x0, x1, x2, x3, x4, x5, y0, y1, y2, y3, y4, y5⟩ := bxc6 hk0
  clear hb hk0
  go_wp2_with fail
  go_at_call 6
  refine (near_c _ _ _ _ _ _ _ HW0.out HW5.out).mono ?_
  rintro r w2 ⟨a, b, c, d, e, v, rfl, hRt, hb⟩
  have HB2 := Aside0.mk (HB1.out.trans (hb.mono HB1.out.size))
  have HRt := Aside0.mk hRt
  clear hb hRt x0 x1 x2 x3 x4 x5 y0 y1 y2 y3 y4 y5 HB1
  clear w1
  go_wp2_with fail
  go_at_call 7
  refine (encode_c _ (Kd.C_below HG.out HB2.out) HRt.out).mono ?_
  rintro r w3 ⟨q, rfl, hq, hb⟩
  obtain ⟨s, hs⟩ : ∃ s, s = closeI 0 0 (packsI [a, b, c, d, e, v]) := ⟨_, rfl⟩
  rw [← hs] at hq
  have HS := Aside0.mk hs
  have HB3 := Aside0.mk (HB2.out.trans (hb.mono HB2.out.size))
  have HQ3 := Aside0.mk (Kd.R_lower hq HB2.out.size)
  have hsl : 0 < s.length ∧ s.length ≤ 82 := by rw [hs, closeI_length]; have := notice_len HRt.out; omega
  have hsB : Bytes s := by rw [hs]; exact closeI_bytes (packsI_byt _)
  have HSB := Aside0.mk hsB
  clear hs hq hb hsB HB2
  clear w2
  obtain ⟨hs0, hs82⟩ := hsl
  have hsz : ((s.length : Int) == 0) = false := beq_eq_false_iff_ne.mpr (by omega)
  obtain ⟨A1, c1, e1⟩ := Kd.R_slice HQ3.out
  subst e1
  obtain ⟨k, hk, hks⟩ := index_of (len := s.length) H1.out hs0
  obtain ⟨m, hm, hms⟩ := index_of (len := s.length) H3.out hs0
  have HM := Aside0.mk hm
  clear hm
  go_wp2_with (at_builtin; refine Kd.R_append_rows (Kd.int .u8) (w0 := w) w.heap.size rfl (.const (.slice none 0 0)) (.tmp 35) 25 5 (.int .u8 0) 1 rfl Tryd.underlying25 info5 rfl (by decide) (by omega) (.slice none 0 0) ([] : List Int) s _ _ _ (fun _ => True) (fun _ => False) rfl rfl ?aO ?aR (fun _ _ h => h) (fun _ h => h.elim) ?aF ?aB ?aS ?aL ?_; (case aR => exact (Kd.R_reads' HQ3.out).2.2); (case aB => exact HB3.out); (case aF => exact (fun _ _ => trivial)); (case aO => exact Kd.R_nil _ _ _ _ (fun _ => True)); (case aS => exact HB3.out.size); (case aL => simp; omega); intro v12 w4 ho hb hg4 hat; rw [List.nil_append] at ho; have HT4 := Aside0.mk ho; have HB4 := Aside0.mk hb; have HQ4 := Aside0.mk (Kd.R_grown HQ3.out hg4 (fun k _ => by simp [Value.ownBlock])); have hne4 : ∀ g, v12.ownBlock = some g → w3.heap.size ≤ g := (fun g hg_ => hat.elim (fun h => by rw [hg_] at h; simp [Value.ownBlock] at h) (fun ⟨b, hb1, hb2⟩ => by rw [hg_] at hb1; injection hb1 with hb1; omega)); have HN4 := Aside0.mk hne4; clear ho hb hg4 hat hne4; obtain ⟨gt, ct, et, hgt, hct, htc, htf⟩ := row_at HT4.out k hks; subst et; obtain ⟨xk, hxk⟩ : ∃ x, x = s.getD k 0 := ⟨_, rfl⟩; rw [← hxk] at htc; have HXK := Aside0.mk hxk; clear hxk)
  obtain ⟨y, hy⟩ : ∃ y, y = Go.bits .xor .u8 xk a2 := ⟨_, rfl⟩
  obtain ⟨W5, hW5⟩ : ∃ W5, W5 = w4.setCell ⟨gt, k, none⟩ (.int .u8 y) := ⟨_, rfl⟩
  have hT5 : Kd.R (Kd.int .u8) 5 W5 w.heap.size (fun _ => True) (.slice (some ⟨gt, 0, none⟩) s.length ct) (s.set k y) := by rw [hW5]; exact Kd.R_putn HT4.out (k : Int) y
  have hQ5 : Kd.R (Kd.int .u8) 5 W5 w.heap.size (fun _ => True) (.slice A1 s.length c1) s := by
    rw [hW5]
    refine Kd.R_mono (Kd.R_far (p := ⟨gt, k, none⟩) (Kd.R_tight rfl HQ4.out) (fun j hj e_ => ?_) _) (fun _ _ => trivial)
    have h1 := Kd.R_lt HQ3.out j hj.symm
    have h2 := HN4.out gt rfl
    have h3 : j = gt := e_
    omega
  have HB5 : Aside0 (Below w.heap.size w W5) := ⟨by rw [hW5]; exact below_set HB4.out hgt⟩
  rw [← hy, ← hW5]
  obtain ⟨d0, d1, d2, d3, d4, d5, df, hd1, hd2⟩ := turned_ev HRt.out (k := k) (by rw [← HS.out]; exact hks) H2.out
  rw [← HS.out, ← HXK.out, ← hy] at hd1
  have D := fun (W : World) (hr : Kd.C (Kd.int .u8) W (some ⟨gt, 0, none⟩) (s.set k y).length (s.set k y)) (hG : G W) => decode_c (some ⟨gt, 0, none⟩) ct W hr (by rw [List.length_set]; exact hct) hG hd1
  rw [List.length_set] at D
  have HD := Aside0.mk D
  have HT5 := Aside0.mk hT5
  have HQ5 := Aside0.mk hQ5
  have HF := Aside0.mk hd2
  clear hy hW5 hT5 hQ5 hd1 hd2 D htc htf hgt hct HT4 HQ4 HB4 HN4 HXK HQ3 HB3 hk hks
  clear w3 w4
  go_at_call 8
  refine (HD.out _ (by have := (Kd.R_reads' HT5.out).2.2; rwa [List.length_set] at this) (Kd.C_below HG.out HB5.out)).mono ?_
  rintro r w6 ⟨rfl, hb⟩
  have HB6 := Aside0.mk (HB5.out.trans (hb.mono HB5.out.size))
  have HQ6 := Aside0.mk (Kd.R_below HQ5.out hb)
  clear hb HD HT5 HQ5 HB5
  clear W5
  have hmc : m ≤ c1 := by have := (Kd.R_reads' HQ6.out).2.1; omega
  have hm := HM.out
  go_wp2_with fail
  have hlm : (s.take m).length = m := by rw [List.length_take]; omega
  have D2 := fun (W : World) (hr : Kd.C (Kd.int .u8) W A1 (s.take m).length (s.take m)) (hG : G W) => decode_c A1 c1 W hr (by rw [hlm]; exact hmc) hG (by have := cut_ev HRt.out (m := m) (by rw [← HS.out]; exact hms); rw [← HS.out] at this; exact this)
  have C6 : Kd.C (Kd.int .u8) w6 A1 (s.take m).length (s.take m) := Kd.C_take (Kd.R_reads' HQ6.out).2.2 (by omega)
  rw [hlm] at D2 C6
  go_at_call 8
  refine (D2 _ (Kd.C_alloc C6 _) (Kd.C_alloc (Kd.C_below HG.out HB6.out) _)).mono ?_
  rintro r w7 ⟨rfl, hb⟩
  have HB7 := Aside0.mk ((below_alloc HB6.out _).trans (hb.mono (by have := HB6.out.size; simp; omega)))
  have HQ7 := Aside0.mk (Kd.R_below (Kd.R_alloc HQ6.out _) hb)
  clear hb D2 C6 HQ6 HB6 hlm hm hmc hms HM
  obtain ⟨gx, hgx⟩ : ∃ gx, gx = w6.heap.size := ⟨_, rfl⟩
  rw [← hgx]
  clear hgx
  clear w6
  go_wp2_with (first | (at_builtin; refine Kd.R_append_rows (Kd.int .u8) (w0 := w) w.heap.size rfl (.tmp 66) (.tmp 68) 25 5 (.int .u8 0) 1 rfl Tryd.underlying25 info5 rfl (by decide) (by omega) v66 s [a2] _ _ _ (fun _ => True) (fun _ => False) rfl rfl ?bO ?bR (fun _ _ h => h) (fun _ h => h.elim) ?bF ?bB ?bS ?bL ?_; (case bR => exact one_row w8 a2); (case bB => exact below_alloc HB8.out _); (case bF => exact (fun _ _ => trivial)); (case bO => exact Kd.R_alloc HV8.out _); (case bS => exact (below_alloc HB8.out _).size); (case bL => omega); intro v69 w9 ho hb hg9 hat; obtain ⟨s2, hs2⟩ : ∃ s2, s2 = s ++ [a2] := ⟨_, rfl⟩; rw [← hs2] at ho; have HV9 := Aside0.mk ho; have HB9 := Aside0.mk hb; have HS2 := Aside0.mk hs2; clear ho hb hg9 hat hs2; obtain ⟨A9, c9, e9⟩ := Kd.R_slice HV9.out; subst e9) | (at_builtin; refine Kd.R_append_rows (Kd.int .u8) (w0 := w) w.heap.size rfl (.const (.slice none 0 0)) (.tmp 65) 25 5 (.int .u8 0) 1 rfl Tryd.underlying25 info5 rfl (by decide) (by omega) (.slice none 0 0) ([] : List Int) s _ _ _ (fun _ => True) (fun _ => False) rfl rfl ?aO ?aR (fun _ _ h => h) (fun _ h => h.elim) ?aF ?aB ?aS ?aL ?_; (case aR => exact (Kd.R_reads' (Kd.R_alloc HQ7.out _)).2.2); (case aB => exact below_alloc HB7.out _); (case aF => exact (fun _ _ => trivial)); (case aO => exact Kd.R_nil _ _ _ _ (fun _ => True)); (case aS => exact (below_alloc HB7.out _).size); (case aL => simp; omega); intro v66 w8 ho hb hg8 hat; rw [List.nil_append] at ho; have HV8 := Aside0.mk ho; have HB8 := Aside0.mk hb; clear ho hb hg8 hat))
  have hd3 := more_ev HRt.out (t := a2) H2.out
  rw [← HS.out, ← HS2.out] at hd3
  have HD3 := Aside0.mk hd3
  clear hd3
  go_at_call 8
  refine (decode_c A9 c9 _ (Kd.R_reads' HV9.out).2.2 (Kd.R_reads' HV9.out).2.1 (Kd.C_below HG.out HB9.out) HD3.out).mono ?_
  rintro r w10 ⟨rfl, hb⟩
  have HB10 := Aside0.mk (HB9.out.trans (hb.mono HB9.out.size))
  clear hb HV9 HB9 HV8 HB8 HQ7 HB7 HS2 HD3
  clear w9
  rcases decode_any HL.out (by omega) with hz | ⟨p0, p1, p2, p3, p4, p5, hpr, hpl⟩
  · have HZ := Aside0.mk hz
    clear hz
    go_wp2_with fail
    go_at_call 8
    refine (decode_c A4 c4 _ (Kd.C_alloc (Kd.C_below HR.out HB10.out) _) HC.out (Kd.C_alloc (Kd.C_below HG.out HB10.out) _) HZ.out).mono ?_
    rintro r w11 ⟨rfl, hb⟩
    have HB11 := Aside0.mk ((below_alloc HB10.out _).trans (hb.mono (by have := HB10.out.size; simp; omega)))
    have hfb := HF.out
    clear hb
    go_wp2_with fail
    go_quiet (fail)
    go_wp2_with fail
    go_ret
    exact ⟨rfl, by first | exact below_alloc HB11.out _ | exact pw_below_drewN (below_alloc HB11.out _) _⟩
  · have HZ := Aside0.mk (decode_ev hpr)
    rw [← hpl] at HZ
    have HP := Aside0.mk hpr
    have HPL := Aside0.mk hpl
    clear hpr hpl
    go_wp2_with fail
    go_at_call 8
    refine (decode_c A4 c4 _ (Kd.C_alloc (Kd.C_below HR.out HB10.out) _) HC.out (Kd.C_alloc (Kd.C_below HG.out HB10.out) _) HZ.out).mono ?_
    rintro r w11 ⟨rfl, hb⟩
    have HB11 := Aside0.mk ((below_alloc HB10.out _).trans (hb.mono (by have := HB10.out.size; simp; omega)))
    have hfb := HF.out
    clear hb
    go_wp2_with fail
    obtain ⟨W, hW⟩ : ∃ W, W = w11.alloc (.cells #[.int .u8 p0, .int .i64 p1, .int .i64 p2, .int .i64 p3, .int .i64 p4, .int .u8 p5] 23) := ⟨_, rfl⟩
    have hbk : W.heap[w11.heap.size]? = some (.cells #[.int .u8 p0, .int .i64 p1, .int .i64 p2, .int .i64 p3, .int .i64 p4, .int .u8 p5] 23 (0, 0)) := by rw [hW]; exact blk_new _ _
    have HBW : Aside0 (Below w.heap.size w W) := ⟨by rw [hW]; exact below_alloc HB11.out _⟩
    obtain ⟨gm, hgm⟩ : ∃ gm, gm = w11.heap.size := ⟨_, rfl⟩
    rw [← hW, ← hgm]
    rw [← hgm] at hbk
    clear hW hgm HB11 HB10 HZ
    clear w11
    obtain ⟨x0, x1, x2, x3, x4, x5, y0, y1, y2, y3, y4, y5⟩ := bxc6 hbk
    clear hbk
    have hcp := fun (q_ : Nat) => Kd.C_string (P := Tryd.prog) (c := c4) Tryd.underlying25 Tryd.underlying5 Tryd.underlying9 (C_same (W := W.drewN q_) (Kd.C_below HR.out HBW.out) rfl)
    have hcpd := Kd.C_string (P := Tryd.prog) (c := c4) Tryd.underlying25 Tryd.underlying5 Tryd.underlying9 (C_same (W := W.drew) (Kd.C_below HR.out HBW.out) rfl)
    have hxl : gm < W.heap.size := World.block_lt_of_cell? W _ x0
    have X0 := Aside0.mk x0
    have X1 := Aside0.mk x1
    have X2 := Aside0.mk x2
    have X3 := Aside0.mk x3
    have X4 := Aside0.mk x4
    have X5 := Aside0.mk x5
    clear hcp y0 y1 y2 y3 y4 y5
    have ENC := Aside0.mk (encode_l W.drew (Kd.C_drew (Kd.C_below HG.out HBW.out)) HP.out HPL.out)
    have HXL := Aside0.mk hxl
    clear hxl
    refine start_ (n := 35) (S := fun w' => w'.cell? ⟨gm, 0, none⟩ = some (.int .u8 p0) ∧ w'.cell? ⟨gm, 1, none⟩ = some (.int .i64 p1) ∧ w'.cell? ⟨gm, 2, none⟩ = some (.int .i64 p2) ∧ w'.cell? ⟨gm, 3, none⟩ = some (.int .i64 p3) ∧ w'.cell? ⟨gm, 4, none⟩ = some (.int .i64 p4) ∧ w'.cell? ⟨gm, 5, none⟩ = some (.int .u8 p5) ∧ Go.Sem.run Tryd.prog (Go.convert 25 9 (.slice A4 l4.length c4)) w' = .ok (.string (strOfNums l4)) w') (ds := []) #[false, false, false, false, false, false, false, false, false, false, false, false, false, false, false, false, false, false, false, false, false, false, false, false, false, false, false, false, false, false, false, false, false, false, false] (by kernel_rfl) rfl rfl ⟨x0, x1, x2, x3, x4, x5, hcpd⟩ (fun hHeld => ?_)
    refine with_tabW turns.tab12 turns.bits12 (fun HT_ HW_ => ?_)
    refine pure_ (i := 0) (N := some 78) (v := ?_) (a' := ?_) #[true, false, false, false, false, false, false, false, false, false, false, false, false, false, false, false, false, false, false, false, false, false, false, false, false, false, false, false, false, false, false, false, false, false, false] rfl rfl (any_of HT_.out (by kernel_rfl)) (fun _ _ _ h => h) (Or.inl ⟨by rfl, ?_⟩) ?_ ?_
    rotate_left
    · intro w'
      go_simp
      with_reducible rfl
    rotate_left
    · simp only [Act.put, List.setIfInBounds_toArray, List.set_cons_zero, List.set_cons_succ, i64_w, i32_w]
      rfl
    refine pure_ (i := 1) (N := some 79) (v := ?_) (a' := ?_) #[true, true, false, false, false, false, false, false, false, false, false, false, false, false, false, false, false, false, false, false, false, false, false, false, false, false, false, false, false, false, false, false, false, false, false] rfl rfl (any_of HT_.out (by kernel_rfl)) (fun _ _ _ h => h) (Or.inl ⟨by rfl, ?_⟩) ?_ ?_
    rotate_left
    · intro w'
      go_simp
      with_reducible rfl
    rotate_left
    · simp only [Act.put, List.setIfInBounds_toArray, List.set_cons_zero, List.set_cons_succ, i64_w, i32_w]
      rfl
    refine pure_ (i := 2) (N := some 80) (v := ?_) (a' := ?_) #[true, true, true, false, false, false, false, false, false, false, false, false, false, false, false, false, false, false, false, false, false, false, false, false, false, false, false, false, false, false, false, false, false, false, false] rfl rfl (any_of HT_.out (by kernel_rfl)) (fun _ _ _ h => h) (Or.inl ⟨by rfl, ?_⟩) ?_ ?_
    rotate_left
    · intro w'
      go_simp
      with_reducible rfl
    rotate_left
    · simp only [Act.put, List.setIfInBounds_toArray, List.set_cons_zero, List.set_cons_succ, i64_w, i32_w]
      rfl
    refine pure_ (i := 3) (N := some 81) (v := ?_) (a' := ?_) #[true, true, true, true, false, false, false, false, false, false, false, false, false, false, false, false, false, false, false, false, false, false, false, false, false, false, false, false, false, false, false, false, false, false, false] rfl rfl (any_of HT_.out (by kernel_rfl)) (fun _ _ _ h => h) (Or.inl ⟨by rfl, ?_⟩) ?_ ?_
    rotate_left
    · intro w'
      go_simp
      with_reducible rfl
    rotate_left
    · simp only [Act.put, List.setIfInBounds_toArray, List.set_cons_zero, List.set_cons_succ, i64_w, i32_w]
      rfl
    refine pure_ (i := 4) (N := some 82) (v := ?_) (a' := ?_) #[true, true, true, true, true, false, false, false, false, false, false, false, false, false, false, false, false, false, false, false, false, false, false, false, false, false, false, false, false, false, false, false, false, false, false] rfl rfl (any_of HT_.out (by kernel_rfl)) (fun _ _ _ h => h) (Or.inl ⟨by rfl, ?_⟩) ?_ ?_
    rotate_left
    · intro w'
      go_simp
      with_reducible rfl
    rotate_left
    · simp only [Act.put, List.setIfInBounds_toArray, List.set_cons_zero, List.set_cons_succ, i64_w, i32_w]
      rfl
    refine pure_ (i := 5) (N := some 83) (v := ?_) (a' := ?_) #[true, true, true, true, true, true, false, false, false, false, false, false, false, false, false, false, false, false, false, false, false, false, false, false, false, false, false, false, false, false, false, false, false, false, false] rfl rfl (any_of HT_.out (by kernel_rfl)) (fun _ _ _ h => h) (Or.inl ⟨by rfl, ?_⟩) ?_ ?_
    rotate_left
    · intro w'
      go_simp
      with_reducible rfl
    rotate_left
    · simp only [Act.put, List.setIfInBounds_toArray, List.set_cons_zero, List.set_cons_succ, i64_w, i32_w]
      rfl
    refine pure_ (i := 6) (N := some 84) (v := ?_) (a' := ?_) #[true, true, true, true, true, true, true, false, false, false, false, false, false, false, false, false, false, false, false, false, false, false, false, false, false, false, false, false, false, false, false, false, false, false, false] rfl rfl (any_of HT_.out (by kernel_rfl)) (fun _ _ _ h => h) (Or.inl ⟨by rfl, ?_⟩) ?_ ?_
    rotate_left
    · intro w'
      go_simp
      with_reducible rfl
    rotate_left
    · simp only [Act.put, List.setIfInBounds_toArray, List.set_cons_zero, List.set_cons_succ, i64_w, i32_w]
      rfl
    refine pure_ (i := 7) (N := some 85) (v := ?_) (a' := ?_) #[true, true, true, true, true, true, true, true, false, false, false, false, false, false, false, false, false, false, false, false, false, false, false, false, false, false, false, false, false, false, false, false, false, false, false] rfl rfl (any_of HT_.out (by kernel_rfl)) (fun _ _ _ h => h) (Or.inl ⟨by rfl, ?_⟩) ?_ ?_
    rotate_left
    · intro w'
      go_simp
      with_reducible rfl
    rotate_left
    · simp only [Act.put, List.setIfInBounds_toArray, List.set_cons_zero, List.set_cons_succ, i64_w, i32_w]
      rfl
    refine pure_ (i := 8) (N := some 86) (v := ?_) (a' := ?_) #[true, true, true, true, true, true, true, true, true, false, false, false, false, false, false, false, false, false, false, false, false, false, false, false, false, false, false, false, false, false, false, false, false, false, false] rfl rfl (any_of HT_.out (by kernel_rfl)) (fun _ _ _ h => h) (Or.inl ⟨by rfl, ?_⟩) ?_ ?_
    rotate_left
    · intro w'
      go_simp
      with_reducible rfl
    rotate_left
    · simp only [Act.put, List.setIfInBounds_toArray, List.set_cons_zero, List.set_cons_succ, i64_w, i32_w]
      rfl
    refine pure_ (i := 9) (N := some 87) (v := ?_) (a' := ?_) #[true, true, true, true, true, true, true, true, true, true, false, false, false, false, false, false, false, false, false, false, false, false, false, false, false, false, false, false, false, false, false, false, false, false, false] rfl rfl (any_of HT_.out (by kernel_rfl)) (fun _ _ _ h => h) (Or.inl ⟨by rfl, ?_⟩) ?_ ?_
    rotate_left
    · intro w'
      go_simp
      with_reducible rfl
    rotate_left
    · simp only [Act.put, List.setIfInBounds_toArray, List.set_cons_zero, List.set_cons_succ, i64_w, i32_w]
      rfl
    refine pure_ (i := 10) (N := some 88) (v := ?_) (a' := ?_) #[true, true, true, true, true, true, true, true, true, true, true, false, false, false, false, false, false, false, false, false, false, false, false, false, false, false, false, false, false, false, false, false, false, false, false] rfl rfl (any_of HT_.out (by kernel_rfl)) (fun _ _ _ h => h) (Or.inl ⟨by rfl, ?_⟩) ?_ ?_
    rotate_left
    · intro w'
      go_simp
      with_reducible rfl
    rotate_left
    · simp only [Act.put, List.setIfInBounds_toArray, List.set_cons_zero, List.set_cons_succ, i64_w, i32_w]
      rfl
    refine pure_ (i := 11) (N := some 89) (v := ?_) (a' := ?_) #[true, true, true, true, true, true, true, true, true, true, true, true, false, false, false, false, false, false, false, false, false, false, false, false, false, false, false, false, false, false, false, false, false, false, false] rfl rfl (any_of HT_.out (by kernel_rfl)) (fun _ _ _ h => h) (Or.inl ⟨by rfl, ?_⟩) ?_ ?_
    rotate_left
    · intro w'
      go_simp
      with_reducible rfl
    rotate_left
    · simp only [Act.put, List.setIfInBounds_toArray, List.set_cons_zero, List.set_cons_succ, i64_w, i32_w]
      rfl
    refine pure_ (i := 12) (N := some 90) (v := ?_) (a' := ?_) #[true, true, true, true, true, true, true, true, true, true, true, true, true, false, false, false, false, false, false, false, false, false, false, false, false, false, false, false, false, false, false, false, false, false, false] rfl rfl (any_of HT_.out (by kernel_rfl)) (fun _ _ _ h => h) (Or.inl ⟨by rfl, ?_⟩) ?_ ?_
    rotate_left
    · intro w'
      go_simp
      with_reducible rfl
    rotate_left
    · simp only [Act.put, List.setIfInBounds_toArray, List.set_cons_zero, List.set_cons_succ, i64_w, i32_w]
      rfl
    refine pure_ (i := 13) (N := some 91) (v := ?_) (a' := ?_) #[true, true, true, true, true, true, true, true, true, true, true, true, true, true, false, false, false, false, false, false, false, false, false, false, false, false, false, false, false, false, false, false, false, false, false] rfl rfl (any_of HT_.out (by kernel_rfl)) (fun _ _ _ h => h) (Or.inl ⟨by rfl, ?_⟩) ?_ ?_
    rotate_left
    · intro w'
      go_simp
      with_reducible rfl
    rotate_left
    · simp only [Act.put, List.setIfInBounds_toArray, List.set_cons_zero, List.set_cons_succ, i64_w, i32_w]
      rfl
    refine pure_ (i := 14) (N := some 92) (v := ?_) (a' := ?_) #[true, true, true, true, true, true, true, true, true, true, true, true, true, true, true, false, false, false, false, false, false, false, false, false, false, false, false, false, false, false, false, false, false, false, false] rfl rfl (any_of HT_.out (by kernel_rfl)) (fun _ _ _ h => h) (Or.inl ⟨by rfl, ?_⟩) ?_ ?_
    rotate_left
    · intro w'
      go_simp
      with_reducible rfl
    rotate_left
    · simp only [Act.put, List.setIfInBounds_toArray, List.set_cons_zero, List.set_cons_succ, i64_w, i32_w]
      rfl
    refine pure_ (i := 15) (N := some 93) (v := ?_) (a' := ?_) #[true, true, true, true, true, true, true, true, true, true, true, true, true, true, true, true, false, false, false, false, false, false, false, false, false, false, false, false, false, false, false, false, false, false, false] rfl rfl (any_of HT_.out (by kernel_rfl)) (fun _ _ _ h => h) (Or.inl ⟨by rfl, ?_⟩) ?_ ?_
    rotate_left
    · intro w'
      go_simp
      with_reducible rfl
    rotate_left
    · simp only [Act.put, List.setIfInBounds_toArray, List.set_cons_zero, List.set_cons_succ, i64_w, i32_w]
      rfl
    refine pure_ (i := 16) (N := some 94) (v := ?_) (a' := ?_) #[true, true, true, true, true, true, true, true, true, true, true, true, true, true, true, true, true, false, false, false, false, false, false, false, false, false, false, false, false, false, false, false, false, false, false] rfl rfl (any_of HT_.out (by kernel_rfl)) (fun _ _ _ h => h) (Or.inl ⟨by rfl, ?_⟩) ?_ ?_
    rotate_left
    · intro w'
      go_simp
      with_reducible rfl
    rotate_left
    · simp only [Act.put, List.setIfInBounds_toArray, List.set_cons_zero, List.set_cons_succ, i64_w, i32_w]
      rfl
    refine pure_ (i := 17) (N := some 95) (v := undef) (a' := ?_) #[true, true, true, true, true, true, true, true, true, true, true, true, true, true, true, true, true, true, false, false, false, false, false, false, false, false, false, false, false, false, false, false, false, false, false] rfl rfl (any_of HT_.out (by kernel_rfl)) (fun _ _ _ h => h) (Or.inr ⟨by rfl, rfl⟩) ?_ ?_
    rotate_left
    · simp only [Act.put, List.setIfInBounds_toArray, List.set_cons_zero, List.set_cons_succ, i64_w, i32_w]
      rfl
    refine pure_ (i := 18) (N := some 96) (v := undef) (a' := ?_) #[true, true, true, true, true, true, true, true, true, true, true, true, true, true, true, true, true, true, true, false, false, false, false, false, false, false, false, false, false, false, false, false, false, false, false] rfl rfl (any_of HT_.out (by kernel_rfl)) (fun _ _ _ h => h) (Or.inr ⟨by rfl, rfl⟩) ?_ ?_
    rotate_left
    · simp only [Act.put, List.setIfInBounds_toArray, List.set_cons_zero, List.set_cons_succ, i64_w, i32_w]
      rfl
    refine pure_ (i := 19) (N := some 97) (v := undef) (a' := ?_) #[true, true, true, true, true, true, true, true, true, true, true, true, true, true, true, true, true, true, true, true, false, false, false, false, false, false, false, false, false, false, false, false, false, false, false] rfl rfl (any_of HT_.out (by kernel_rfl)) (fun _ _ _ h => h) (Or.inr ⟨by rfl, rfl⟩) ?_ ?_
    rotate_left
    · simp only [Act.put, List.setIfInBounds_toArray, List.set_cons_zero, List.set_cons_succ, i64_w, i32_w]
      rfl
    refine pure_ (i := 20) (N := some 98) (v := ?_) (a' := ?_) #[true, true, true, true, true, true, true, true, true, true, true, true, true, true, true, true, true, true, true, true, true, false, false, false, false, false, false, false, false, false, false, false, false, false, false] rfl rfl (any_of HT_.out (by kernel_rfl)) (fun _ _ _ h => h) (Or.inl ⟨by rfl, ?_⟩) ?_ ?_
    rotate_left
    · intro w'
      go_simp
      with_reducible rfl
    rotate_left
    · simp only [Act.put, List.setIfInBounds_toArray, List.set_cons_zero, List.set_cons_succ, i64_w, i32_w]
      rfl
    refine pure_ (i := 21) (N := some 99) (v := ?_) (a' := ?_) #[true, true, true, true, true, true, true, true, true, true, true, true, true, true, true, true, true, true, true, true, true, true, false, false, false, false, false, false, false, false, false, false, false, false, false] rfl rfl (any_of HT_.out (by kernel_rfl)) (fun _ _ _ h => h) (Or.inl ⟨by rfl, ?_⟩) ?_ ?_
    rotate_left
    · intro w'
      go_simp
      with_reducible rfl
    rotate_left
    · simp only [Act.put, List.setIfInBounds_toArray, List.set_cons_zero, List.set_cons_succ, i64_w, i32_w]
      rfl
    refine pure_ (i := 22) (N := some 100) (v := ?_) (a' := ?_) #[true, true, true, true, true, true, true, true, true, true, true, true, true, true, true, true, true, true, true, true, true, true, true, false, false, false, false, false, false, false, false, false, false, false, false] rfl rfl (any_of HT_.out (by kernel_rfl)) (fun _ _ _ h => h) (Or.inl ⟨by rfl, ?_⟩) ?_ ?_
    rotate_left
    · intro w'
      go_simp
      with_reducible rfl
    rotate_left
    · simp only [Act.put, List.setIfInBounds_toArray, List.set_cons_zero, List.set_cons_succ, i64_w, i32_w]
      rfl
    refine pure_ (i := 23) (N := some 101) (v := ?_) (a' := ?_) #[true, true, true, true, true, true, true, true, true, true, true, true, true, true, true, true, true, true, true, true, true, true, true, true, false, false, false, false, false, false, false, false, false, false, false] rfl rfl (any_of HT_.out (by kernel_rfl)) (fun _ _ _ h => h) (Or.inl ⟨by rfl, ?_⟩) ?_ ?_
    rotate_left
    · intro w'
      go_simp
      with_reducible rfl
    rotate_left
    · simp only [Act.put, List.setIfInBounds_toArray, List.set_cons_zero, List.set_cons_succ, i64_w, i32_w]
      rfl
    refine pure_ (i := 24) (N := some 102) (v := ?_) (a' := ?_) #[true, true, true, true, true, true, true, true, true, true, true, true, true, true, true, true, true, true, true, true, true, true, true, true, true, false, false, false, false, false, false, false, false, false, false] rfl rfl (any_of HT_.out (by kernel_rfl)) (fun _ _ _ h => h) (Or.inl ⟨by rfl, ?_⟩) ?_ ?_
    rotate_left
    · intro w'
      go_simp
      with_reducible rfl
    rotate_left
    · simp only [Act.put, List.setIfInBounds_toArray, List.set_cons_zero, List.set_cons_succ, i64_w, i32_w]
      rfl
    refine pure_ (i := 28) (N := some 106) (v := ?_) (a' := ?_) #[true, true, true, true, true, true, true, true, true, true, true, true, true, true, true, true, true, true, true, true, true, true, true, true, true, false, false, false, true, false, false, false, false, false, false] rfl rfl (any_of HT_.out (by kernel_rfl)) (fun _ _ _ h => h) (Or.inl ⟨by rfl, ?_⟩) ?_ ?_
    rotate_left
    · intro w'
      go_simp
      with_reducible rfl
    rotate_left
    · simp only [Act.put, List.setIfInBounds_toArray, List.set_cons_zero, List.set_cons_succ, i64_w, i32_w]
      rfl
    refine take_ (i := 25) (N := some 103) (v := ?_) (a' := ?_) #[true, true, true, true, true, true, true, true, true, true, true, true, true, true, true, true, true, true, true, true, true, true, true, true, true, true, false, false, true, false, false, false, false, false, false] rfl rfl (take_ofW HT_.out HW_.out (by kernel_rfl)) (fun _ _ _ h => h) (Or.inl ⟨by rfl, ?_⟩) hHeld ?_ ?_
    rotate_left
    · rintro w' ⟨s0, s1, s2, s3, s4, s5, s6⟩
      go_simp
      with_reducible rfl
    rotate_left
    · simp only [Act.put, List.setIfInBounds_toArray, List.set_cons_zero, List.set_cons_succ, i64_w, i32_w]
      rfl
    refine take_ (i := 29) (N := some 107) (v := ?_) (a' := ?_) #[true, true, true, true, true, true, true, true, true, true, true, true, true, true, true, true, true, true, true, true, true, true, true, true, true, true, false, false, true, true, false, false, false, false, false] rfl rfl (take_ofW HT_.out HW_.out (by kernel_rfl)) (fun _ _ _ h => h) (Or.inl ⟨by rfl, ?_⟩) hHeld ?_ ?_
    rotate_left
    · rintro w' ⟨s0, s1, s2, s3, s4, s5, s6⟩
      go_simp
      with_reducible rfl
    rotate_left
    · simp only [Act.put, List.setIfInBounds_toArray, List.set_cons_zero, List.set_cons_succ, i64_w, i32_w]
      rfl
    refine one_ (i := 26) (N := some 104) #[true, true, true, true, true, true, true, true, true, true, true, true, true, true, true, true, true, true, true, true, true, true, true, true, true, true, true, false, true, true, false, false, false, false, false] rfl rfl (one_of HT_.out (by kernel_rfl)) (by decide) (fun K hK => ?_)
    refine goes_ Tryd.func7 (by kernel_rfl) rfl #[.agg #[.int .u8 p0, .int .i64 p1, .int .i64 p2, .int .i64 p3, .int .i64 p4, .int .u8 p5]] (by rfl) rfl rfl (by simp only [List.map_toArray, List.map_cons, List.map_nil]; rfl) ?_
    with_reducible refine ENC.out.mono ?_
    rintro r w13 ⟨x, rfl, hx, hb⟩
    refine ⟨_, rfl, ?_⟩
    have hcx := own_string (P := Tryd.prog) Tryd.underlying25 Tryd.underlying5 Tryd.underlying9 (Kd.own_of_R hx)
    have hcq := Kd.C_string (P := Tryd.prog) (c := c4) Tryd.underlying25 Tryd.underlying5 Tryd.underlying9 (Kd.C_below (Kd.C_drew (Kd.C_below HR.out HBW.out)) hb)
    have k0 := (hb.cell (p := ⟨gm, 0, none⟩) HXL.out).trans X0.out
    have k1 := (hb.cell (p := ⟨gm, 1, none⟩) HXL.out).trans X1.out
    have k2 := (hb.cell (p := ⟨gm, 2, none⟩) HXL.out).trans X2.out
    have k3 := (hb.cell (p := ⟨gm, 3, none⟩) HXL.out).trans X3.out
    have k4 := (hb.cell (p := ⟨gm, 4, none⟩) HXL.out).trans X4.out
    have k5 := (hb.cell (p := ⟨gm, 5, none⟩) HXL.out).trans X5.out
    have HBE := Aside0.mk ((below_drew HBW.out).trans (hb.mono HBW.out.size))
    clear hx hb
    refine hK.out _ _ ⟨k0, k1, k2, k3, k4, k5, hcq⟩ (fun hHeld => ?_)
    clear hK K
    refine norm_ (a' := ?_) ?_ ?_
    rotate_left
    · show Act.put _ (some 104) _ = _
      simp only [Act.put, List.setIfInBounds_toArray, List.set_cons_zero, List.set_cons_succ, i64_w, i32_w]
      rfl
    refine one_ (i := 27) (N := some 105) #[true, true, true, true, true, true, true, true, true, true, true, true, true, true, true, true, true, true, true, true, true, true, true, true, true, true, true, true, true, true, false, false, false, false, false] rfl rfl (one_of HT_.out (by kernel_rfl)) (by decide) (fun K hK => ?_)
    refine value_ (w1 := ?_) (v := ?_) (by rfl) rfl ?_ ?_
    rotate_left 2
    · go_simp
      constructor
      · rfl
      · rfl
    refine hK.out _ _ ⟨k0, k1, k2, k3, k4, k5, hcq⟩ (fun hHeld => ?_)
    clear hK K
    refine norm_ (a' := ?_) ?_ ?_
    rotate_left
    · show Act.put _ (some 105) _ = _
      simp only [Act.put, List.setIfInBounds_toArray, List.set_cons_zero, List.set_cons_succ, i64_w, i32_w]
      rfl
    refine pure_ (i := 30) (N := some 108) (v := ?_) (a' := ?_) #[true, true, true, true, true, true, true, true, true, true, true, true, true, true, true, true, true, true, true, true, true, true, true, true, true, true, true, true, true, true, true, false, false, false, false] rfl rfl (any_of HT_.out (by kernel_rfl)) (fun _ _ _ h => h) (Or.inl ⟨by rfl, ?_⟩) ?_ ?_
    rotate_left
    · intro w'
      go_simp
      with_reducible rfl
    rotate_left
    · simp only [Act.put, List.setIfInBounds_toArray, List.set_cons_zero, List.set_cons_succ, i64_w, i32_w]
      rfl
    refine pure_ (i := 31) (N := some 109) (v := ?_) (a' := ?_) #[true, true, true, true, true, true, true, true, true, true, true, true, true, true, true, true, true, true, true, true, true, true, true, true, true, true, true, true, true, true, true, true, false, false, false] rfl rfl (any_of HT_.out (by kernel_rfl)) (fun _ _ _ h => h) (Or.inl ⟨by rfl, ?_⟩) ?_ ?_
    rotate_left
    · intro w'
      go_simp
      with_reducible rfl
    rotate_left
    · simp only [Act.put, List.setIfInBounds_toArray, List.set_cons_zero, List.set_cons_succ, i64_w, i32_w]
      rfl
    refine pure_ (i := 32) (N := some 110) (v := ?_) (a' := ?_) #[true, true, true, true, true, true, true, true, true, true, true, true, true, true, true, true, true, true, true, true, true, true, true, true, true, true, true, true, true, true, true, true, true, false, false] rfl rfl (any_of HT_.out (by kernel_rfl)) (fun _ _ _ h => h) (Or.inl ⟨by rfl, ?_⟩) ?_ ?_
    rotate_left
    · intro w'
      go_simp
      with_reducible rfl
    rotate_left
    · simp only [Act.put, List.setIfInBounds_toArray, List.set_cons_zero, List.set_cons_succ, i64_w, i32_w]
      rfl
    refine pure_ (i := 33) (N := some 111) (v := ?_) (a' := ?_) #[true, true, true, true, true, true, true, true, true, true, true, true, true, true, true, true, true, true, true, true, true, true, true, true, true, true, true, true, true, true, true, true, true, true, false] rfl rfl (any_of HT_.out (by kernel_rfl)) (fun _ _ _ h => h) (Or.inl ⟨by rfl, ?_⟩) ?_ ?_
    rotate_left
    · intro w'
      go_simp
      with_reducible rfl
    rotate_left
    · simp only [Act.put, List.setIfInBounds_toArray, List.set_cons_zero, List.set_cons_succ, i64_w, i32_w]
      rfl
    refine pure_ (i := 34) (N := some 10) (v := ?_) (a' := ?_) #[true, true, true, true, true, true, true, true, true, true, true, true, true, true, true, true, true, true, true, true, true, true, true, true, true, true, true, true, true, true, true, true, true, true, true] rfl rfl (any_of HT_.out (by kernel_rfl)) (fun _ _ _ h => h) (Or.inl ⟨by rfl, ?_⟩) ?_ ?_
    rotate_left
    · intro w'
      go_simp
      with_reducible rfl
    rotate_left
    · simp only [Act.put, List.setIfInBounds_toArray, List.set_cons_zero, List.set_cons_succ, i64_w, i32_w]
      rfl
    refine done_ (done_of HT_.out (by kernel_rfl)) ?_
    go_wp2_with fail
    go_ret
    exact ⟨rfl, HBE.out⟩
theorem turns_any (n0 n1 n2 n3 n4 n5 a1 a2 a3 : Int) (a4 : Option Addr) (len4 cap4 : Nat) (z4 : List Int) (w : World) (hw0 : (Lit.int .u8 n0).wf = true) (hw5 : (Lit.int .u8 n5).wf = true) (w1 : (Lit.int .u8 a1).wf = true) (w2 : (Lit.int .u8 a2).wf = true) (w3 : (Lit.int .u8 a3).wf = true)
    (w4 : (a4 = none ∧ len4 = 0 ∧ cap4 = 0 ∧ z4 = []) ∨ ∃ x, a4 = some x ∧ len4 ≤ cap4 ∧ cap4 ≤ maxLen ∧ z4.length = cap4 ∧ (∀ i, i < z4.length → w.cell? (x.add i) = some (.int .u8 (z4.getD i 0))) ∧ ∀ n ∈ z4, (Lit.int .u8 n).wf = true) (hG : G w) :
    Calls Tryd.prog 4 #[.agg #[.int .u8 n0, .int .i64 n1, .int .i64 n2, .int .i64 n3, .int .i64 n4, .int .u8 n5], .int .u8 a1, .int .u8 a2, .int .u8 a3, .slice a4 len4 cap4] w fun e w' => e = .returned (.bool true) ∧ Below w.heap.size w w' := by
  obtain ⟨l4, rfl, hr0, hm0, hw0', hc0⟩ := ReadsInt.ofRowC w4
  have hr := Kd.C_of_reads (d := (0 : Int)) (h1 := fun _ => rfl) hr0
  have b1 := bounds_u8 w1
  have b2 := bounds_u8 w2
  have b3 := bounds_u8 w3
  by_cases hg : 60 < l4.length
  · exact turns_long n0 n1 n2 n3 n4 n5 a1 a2 a3 a4 cap4 l4 w hg
  · exact turns_short n0 n1 n2 n3 n4 n5 a1 a2 a3 a4 cap4 l4 w hw0 hw5 (by omega) (by omega) (by omega) hr hc0 (bytes_of hw0') hG hg
end Go.Proofs.YtlbfmpjkdoecbaaDoor
