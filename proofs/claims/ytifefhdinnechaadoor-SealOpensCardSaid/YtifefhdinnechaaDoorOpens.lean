/- SealOpens: any bytes: what is under their seal, or why there is nothing. -/
import Derived.Test.YtifefhdinnechaaDoorPureOpen
import Derived.Test.YtifefhdinnechaaDoorWKept
import Derived.WalkKit
import Derived.Outline
import Derived.Deep.QuietTactic
import Derived.BigQuiet
import Derived.Deep.RegionHeld3
import Derived.Deep.DeepCutAuto
import Derived.Laws.Rows
namespace Go.Proofs.YtifefhdinnechaaDoor
open Go.RowKit Go.Proofs.YtifefhdinnechaaDoor.PA Go.Proofs.YtifefhdinnechaaDoorW.PrintWords Go.Proofs.YtifefhdinnechaaDoorW.PrintLast Go.Proofs.YtifefhdinnechaaDoorW.PrintMore
open Go.Proofs.YtifefhdinnechaaDoor.Pure (Bytes openI refOpenI ageI closeI open_cases open_f refOpen_f age_f refClose_f awake_f bytes_of closeI_bytes closeI_length)
set_option linter.unusedVariables false
set_option linter.unusedSimpArgs false
/-- A row of whole numbers that came in. -/
structure RowIn (k : IntKind) (w : World) (a : Option Addr) (len : Nat) (zs : List Int) : Prop where
  long : zs.length = len
  wf : ∀ n ∈ zs, (Lit.int k n).wf = true
  cell : ∀ i, i < len → ∃ x, a = some x ∧ w.cell? (x.add i) = some (.int k (zs.getD i 0))
abbrev G (w : World) : Prop := Kd.C (Kd.int .u32) w (some ⟨0, 0, none⟩) 16 gl0
theorem awake_c (w : World) (h : G w) : Calls Tryd.prog 8 #[] w fun e w' => e = .returned (.bool true) ∧ Below w.heap.size w w' :=
  (paybooklaw06_awake.calls 10 true w h (awake_f 10 (by decide))).mono fun e w' h => ⟨h.1, h.2⟩
theorem ref_c (A : Option Addr) (c : Nat) (l : List Int) (r1 r2 r3 r4 : Int) (w : World) (hr : Kd.C (Kd.int .u8) w A l.length l) (hc : l.length ≤ c) (hl : Bytes l) (hm : l.length ≤ 1000) (h : refOpenI l = (r1, r2, r3, r4)) :
    Calls Tryd.prog 14 #[.slice A l.length c] w fun e w' => e = .returned (.tuple #[.int .i64 r1, .int .u32 r2, .int .u32 r3, .int .i64 r4]) ∧ Below w.heap.size w w' :=
  paybookref05_Open.calls (8 * l.length + 201) A c l r1 r2 r3 r4 w hr hc (by rw [refOpen_f hl (by omega) _ (by omega), h])
theorem open_c (a b : Int) (A : Option Addr) (c : Nat) (l q : List Int) (n e : Int) (w : World) (hr : Kd.C (Kd.int .u8) w A l.length l) (hc : l.length ≤ c) (hG : G w) (hl : Bytes l) (hm : l.length ≤ 1000) (h : openI a b l = (q, n, e)) :
    Calls Tryd.prog 12 #[.int .u32 a, .int .u32 b, .slice A l.length c] w fun e' w' => ∃ v, e' = .returned (.tuple #[v, .int .i64 n, .int .i64 e]) ∧ Kd.R (Kd.int .u8) 5 w' w.heap.size (fun _ => True) v q ∧ Below w.heap.size w w' :=
  seal_Open.calls (l.length + 21) a b A c l q n e w hr hc hG (by rw [open_f hl (by omega) _ _ _ (by omega), h])
theorem age_c (b : Int) (A : Option Addr) (c : Nat) (l : List Int) (r e : Int) (w : World) (hr : Kd.C (Kd.int .u8) w A l.length l) (hc : l.length ≤ c) (hG : G w) (hl : Bytes l) (hm : l.length ≤ 1000) (h : ageI b l = (r, e)) :
    Calls Tryd.prog 15 #[.int .u32 b, .slice A l.length c] w fun e' w' => e' = .returned (.tuple #[.int .u32 r, .int .i64 e]) ∧ Below w.heap.size w w' :=
  seal_Age.calls (l.length + 21) b A c l r e w hr hc hG (by rw [age_f hl (by omega) _ _ (by omega)]; exact congrArg some h)
theorem close_c (a b : Int) (A : Option Addr) (c : Nat) (l : List Int) (w : World) (hr : Kd.C (Kd.int .u8) w A l.length l) (hc : l.length ≤ c) (hl : Bytes l) (hm : l.length ≤ 1000) (ha : 0 ≤ a ∧ a < 4294967296) (hb : 0 ≤ b ∧ b < 4294967296) :
    Calls Tryd.prog 11 #[.int .u32 a, .int .u32 b, .slice A l.length c] w fun e w' => ∃ v, e = .returned v ∧ Kd.R (Kd.int .u8) 5 w' w.heap.size (fun _ => True) v (closeI a b l) ∧ Below w.heap.size w w' :=
  paybookref05_Close.calls (8 * l.length + 201) a b A c l (closeI a b l) w hr hc (refClose_f hl (by omega) a b ha hb _ (by omega))
theorem R_same {w W : World} {base : Nat} {ok : Nat → Prop} {v : Value} {xs : List Int} (h : Kd.R (Kd.int .u8) 5 w base ok v xs) (e : W.heap = w.heap) : Kd.R (Kd.int .u8) 5 W base ok v xs := Kd.R_step h (fun k _ _ => by rw [e])
theorem C_same {w W : World} {A : Option Addr} {n : Nat} {xs : List Int} (h : Kd.C (Kd.int .u8) w A n xs) (e : W.heap = w.heap) : Kd.C (Kd.int .u8) W A n xs := (Kd.heap_int .u8).C (fun k _ => by rw [e]) h

set_option maxHeartbeats 4000000 in
theorem opens_long (a0 : Option Addr) (cap0 : Nat) (l0 : List Int) (a1 a2 : Int) (on : Bool) (w : World) (hr : Kd.C (Kd.int .u8) w a0 l0.length l0) (hc : l0.length ≤ cap0) (hl : Bytes l0) (hG : G w) (ha : 0 ≤ a1 ∧ a1 < 4294967296) (hb : 0 ≤ a2 ∧ a2 < 4294967296) (hg : 100 < l0.length) :
    Calls Tryd.prog 6 #[.slice a0 l0.length cap0, .int .u32 a1, .int .u32 a2, .bool on] w fun e w' => e = .returned (.bool true) ∧ Below w.heap.size w w' := by
  have HG := Aside0.mk hG
  clear hr hc hl hG ha hb
  go_enter Tryd.func6, Tryd.ntmps6
  go_wp2_with fail
  go_at_call 8
  refine (awake_c _ HG.out).mono ?_
  rintro e w1 ⟨rfl, hb⟩
  have HB1 := Aside0.mk hb
  clear hb
  go_wp2_with fail
  go_at_call 8
  refine (awake_c _ (Kd.C_below HG.out HB1.out)).mono ?_
  rintro e w2 ⟨rfl, hb⟩
  have HB2 := Aside0.mk (HB1.out.trans (hb.mono HB1.out.size))
  clear hb
  go_wp2_with fail
  go_ret
  exact ⟨rfl, HB2.out⟩
set_option maxHeartbeats 4000000 in
theorem opens_short (a0 : Option Addr) (cap0 : Nat) (l0 : List Int) (a1 a2 : Int) (w : World) (hr : Kd.C (Kd.int .u8) w a0 l0.length l0) (hc : l0.length ≤ cap0) (hl : Bytes l0) (hG : G w) (ha : 0 ≤ a1 ∧ a1 < 4294967296) (hb : 0 ≤ a2 ∧ a2 < 4294967296) (hg : ¬ 100 < l0.length) :
    Calls Tryd.prog 6 #[.slice a0 l0.length cap0, .int .u32 a1, .int .u32 a2, .bool false] w fun e w' => e = .returned (.bool true) ∧ Below w.heap.size w w' := by
  have HG := Aside0.mk hG
  have HR := Aside0.mk hr
  have HC := Aside0.mk hc
  have HL := Aside0.mk hl
  have HA := Aside0.mk ha
  have HBb := Aside0.mk hb
  have HG1 := Aside0.mk hg
  have hg5 : ¬ 100 < l0.length := hg
  clear hr hc hl hG ha hb hg
  go_enter Tryd.func6, Tryd.ntmps6
  go_wp2_with fail
  go_at_call 8
  refine (awake_c _ HG.out).mono ?_
  rintro e w1 ⟨rfl, hb⟩
  have HB1 := Aside0.mk hb
  clear hb
  have HP := Aside0.mk (Kd.C_below HR.out HB1.out)
  have HPC := HC
  have HPL := HL
  have HPM : Aside0 (l0.length ≤ 1000) := ⟨by omega⟩
  have HBW := HB1
  rcases open_cases HPL.out a1 a2 with ⟨e, he, q1, q2, q3⟩ | ⟨n, x, y, hn0, hn1, hn2, q1, hq⟩
  · have Q1 := Aside0.mk q1
    have Q2 := Aside0.mk q2
    have Q3 := Aside0.mk q3
    have he0 : (e != 0) = true := by rcases he with rfl | rfl | rfl <;> rfl
    clear q1 q2 q3 he
    go_wp2_with fail
    go_at_call 14
    refine (ref_c a0 cap0 l0 _ _ _ _ _ HP.out HPC.out HPL.out HPM.out Q1.out).mono ?_
    rintro e' w3 ⟨rfl, hb⟩
    have HB3 := Aside0.mk (HBW.out.trans (hb.mono HBW.out.size))
    have HP3 := Aside0.mk (Kd.C_below HP.out hb)
    clear hb HP HBW
    go_wp2_with fail
    go_at_call 12
    refine (open_c _ _ a0 cap0 l0 _ _ _ _ HP3.out HPC.out (Kd.C_below HG.out HB3.out) HPL.out HPM.out Q2.out).mono ?_
    rintro e' w4 ⟨v, rfl, hq, hb⟩
    have HB4 := Aside0.mk (HB3.out.trans (hb.mono HB3.out.size))
    have HP4 := Aside0.mk (Kd.C_below HP3.out hb)
    have HQ4 := Aside0.mk hq
    clear hb HP3 HB3 hq
    obtain ⟨Aq, cq, eq⟩ := Kd.R_slice HQ4.out
    go_wp2_with fail
    go_at_call 15
    refine (age_c _ a0 cap0 l0 _ _ _ HP4.out HPC.out (Kd.C_below HG.out HB4.out) HPL.out HPM.out Q3.out).mono ?_
    rintro e' w5 ⟨rfl, hb⟩
    have HB5 := Aside0.mk (HB4.out.trans (hb.mono HB4.out.size))
    have HP5 := Aside0.mk (Kd.C_below HP4.out hb)
    have HQ := Aside0.mk (Kd.R_below HQ4.out hb)
    clear hb HP4 HB4 HQ4
    subst eq
    go_wp2_with fail
    go_ret
    exact ⟨rfl, HB5.out⟩
  have Q1 := Aside0.mk q1
  clear q1
  rcases hq with ⟨hx, hy, q2, q3⟩ | ⟨hx, hy, q2, q3⟩ | ⟨hy, q2, q3⟩
  · obtain ⟨body, hbody⟩ : ∃ b, b = (l0.take (16 + n).toNat).drop 16 := ⟨_, rfl⟩
    rw [← hbody] at q2
    have HBD := Aside0.mk hbody
    have Q2 := Aside0.mk q2
    have Q3 := Aside0.mk q3
    clear q2 q3 hbody
    subst hx hy
    go_wp2_with fail
    go_at_call 14
    refine (ref_c a0 cap0 l0 _ _ _ _ _ HP.out HPC.out HPL.out HPM.out Q1.out).mono ?_
    rintro e' w3 ⟨rfl, hb⟩
    have HB3 := Aside0.mk (HBW.out.trans (hb.mono HBW.out.size))
    have HP3 := Aside0.mk (Kd.C_below HP.out hb)
    clear hb HP HBW
    go_wp2_with fail
    go_at_call 12
    refine (open_c _ _ a0 cap0 l0 _ _ _ _ HP3.out HPC.out (Kd.C_below HG.out HB3.out) HPL.out HPM.out Q2.out).mono ?_
    rintro e' w4 ⟨v, rfl, hq, hb⟩
    have HB4 := Aside0.mk (HB3.out.trans (hb.mono HB3.out.size))
    have HP4 := Aside0.mk (Kd.C_below HP3.out hb)
    have HQ4 := Aside0.mk hq
    clear hb HP3 HB3 hq
    obtain ⟨Aq, cq, eq⟩ := Kd.R_slice HQ4.out
    go_wp2_with fail
    go_at_call 15
    refine (age_c _ a0 cap0 l0 _ _ _ HP4.out HPC.out (Kd.C_below HG.out HB4.out) HPL.out HPM.out Q3.out).mono ?_
    rintro e' w5 ⟨rfl, hb⟩
    have HB5 := Aside0.mk (HB4.out.trans (hb.mono HB4.out.size))
    have HP5 := Aside0.mk (Kd.C_below HP4.out hb)
    have HQ := Aside0.mk (Kd.R_below HQ4.out hb)
    clear hb HP4 HB4 HQ4
    subst eq
    obtain ⟨i0, hi, hz0, hz1, hz2⟩ := info_parts info5
    have hsl := cut_mid (P := Tryd.prog) 22 5 .i64 .i64 Tryd.underlying22 hi 1 hz1 a0 l0.length cap0 16 (16 + n) (by decide) (by omega) (by omega) HPC.out
    have hmid := Kd.C_mid (lo := 16) (hi := (16 + n).toNat) (HP5.out) (by omega) (by omega) HPC.out
    obtain ⟨A', hA'⟩ : ∃ A', A' = (if cap0 = (16 : Int).toNat then a0 else a0.map (·.add ((16 : Int).toNat * 1))) := ⟨_, rfl⟩
    rw [← hA'] at hsl
    have hmid' : Kd.C (Kd.int .u8) w5 A' ((l0.take (16 + n).toNat).drop 16).length ((l0.take (16 + n).toNat).drop 16) := by rw [hA']; exact hmid
    have hlm : ((l0.take (16 + n).toNat).drop 16).length = (16 + n).toNat - (16 : Int).toNat := by rw [List.length_drop, List.length_take]; omega
    rw [← HBD.out] at hmid' hlm
    obtain ⟨m, hm⟩ : ∃ m, m = (16 + n).toNat - (16 : Int).toNat := ⟨_, rfl⟩
    rw [← hm] at hsl hlm
    rw [hlm] at hmid'
    have hs1 := fun (q_ : Nat) => own_string (P := Tryd.prog) Tryd.underlying22 Tryd.underlying5 Tryd.underlying9 (Kd.own_of_R (R_same (W := w5.drewN q_) HQ.out rfl))
    have hs2 := fun (q_ C : Nat) => Kd.C_string (c := C) (P := Tryd.prog) Tryd.underlying22 Tryd.underlying5 Tryd.underlying9 (C_same (W := w5.drewN q_) hmid' rfl)
    clear hmid hmid' hA' hlm hm hi hz0 hz1 hz2
    go_wp2_with fail
    go_quiet (fail)
    go_wp2_with fail
    go_ret
    exact ⟨rfl, by first | exact HB5.out | exact pw_below_drewN HB5.out _⟩
  · have Q2 := Aside0.mk q2
    have Q3 := Aside0.mk q3
    have hx' : (x != a1) = true := by simpa using hx
    clear q2 q3 hx
    subst hy
    go_wp2_with fail
    go_at_call 14
    refine (ref_c a0 cap0 l0 _ _ _ _ _ HP.out HPC.out HPL.out HPM.out Q1.out).mono ?_
    rintro e' w3 ⟨rfl, hb⟩
    have HB3 := Aside0.mk (HBW.out.trans (hb.mono HBW.out.size))
    have HP3 := Aside0.mk (Kd.C_below HP.out hb)
    clear hb HP HBW
    go_wp2_with fail
    go_at_call 12
    refine (open_c _ _ a0 cap0 l0 _ _ _ _ HP3.out HPC.out (Kd.C_below HG.out HB3.out) HPL.out HPM.out Q2.out).mono ?_
    rintro e' w4 ⟨v, rfl, hq, hb⟩
    have HB4 := Aside0.mk (HB3.out.trans (hb.mono HB3.out.size))
    have HP4 := Aside0.mk (Kd.C_below HP3.out hb)
    have HQ4 := Aside0.mk hq
    clear hb HP3 HB3 hq
    obtain ⟨Aq, cq, eq⟩ := Kd.R_slice HQ4.out
    go_wp2_with fail
    go_at_call 15
    refine (age_c _ a0 cap0 l0 _ _ _ HP4.out HPC.out (Kd.C_below HG.out HB4.out) HPL.out HPM.out Q3.out).mono ?_
    rintro e' w5 ⟨rfl, hb⟩
    have HB5 := Aside0.mk (HB4.out.trans (hb.mono HB4.out.size))
    have HP5 := Aside0.mk (Kd.C_below HP4.out hb)
    have HQ := Aside0.mk (Kd.R_below HQ4.out hb)
    clear hb HP4 HB4 HQ4
    subst eq
    go_wp2_with fail
    go_ret
    exact ⟨rfl, HB5.out⟩
  · have Q2 := Aside0.mk q2
    have Q3 := Aside0.mk q3
    have hy' : (y != a2) = true := by simpa using hy
    clear q2 q3 hy
    go_wp2_with fail
    go_at_call 14
    refine (ref_c a0 cap0 l0 _ _ _ _ _ HP.out HPC.out HPL.out HPM.out Q1.out).mono ?_
    rintro e' w3 ⟨rfl, hb⟩
    have HB3 := Aside0.mk (HBW.out.trans (hb.mono HBW.out.size))
    have HP3 := Aside0.mk (Kd.C_below HP.out hb)
    clear hb HP HBW
    go_wp2_with fail
    go_at_call 12
    refine (open_c _ _ a0 cap0 l0 _ _ _ _ HP3.out HPC.out (Kd.C_below HG.out HB3.out) HPL.out HPM.out Q2.out).mono ?_
    rintro e' w4 ⟨v, rfl, hq, hb⟩
    have HB4 := Aside0.mk (HB3.out.trans (hb.mono HB3.out.size))
    have HP4 := Aside0.mk (Kd.C_below HP3.out hb)
    have HQ4 := Aside0.mk hq
    clear hb HP3 HB3 hq
    obtain ⟨Aq, cq, eq⟩ := Kd.R_slice HQ4.out
    go_wp2_with fail
    go_at_call 15
    refine (age_c _ a0 cap0 l0 _ _ _ HP4.out HPC.out (Kd.C_below HG.out HB4.out) HPL.out HPM.out Q3.out).mono ?_
    rintro e' w5 ⟨rfl, hb⟩
    have HB5 := Aside0.mk (HB4.out.trans (hb.mono HB4.out.size))
    have HP5 := Aside0.mk (Kd.C_below HP4.out hb)
    have HQ := Aside0.mk (Kd.R_below HQ4.out hb)
    clear hb HP4 HB4 HQ4
    subst eq
    go_wp2_with fail
    all_goals
      go_ret
      exact ⟨rfl, HB5.out⟩
set_option maxHeartbeats 4000000 in
theorem opens_whole (a0 : Option Addr) (cap0 : Nat) (l0 : List Int) (a1 a2 : Int) (w : World) (hr : Kd.C (Kd.int .u8) w a0 l0.length l0) (hc : l0.length ≤ cap0) (hl : Bytes l0) (hG : G w) (ha : 0 ≤ a1 ∧ a1 < 4294967296) (hb : 0 ≤ a2 ∧ a2 < 4294967296) (hg : ¬ 100 < l0.length) :
    Calls Tryd.prog 6 #[.slice a0 l0.length cap0, .int .u32 a1, .int .u32 a2, .bool true] w fun e w' => e = .returned (.bool true) ∧ Below w.heap.size w w' := by
  have HG := Aside0.mk hG
  have HR := Aside0.mk hr
  have HC := Aside0.mk hc
  have HL := Aside0.mk hl
  have HA := Aside0.mk ha
  have HBb := Aside0.mk hb
  have HG1 := Aside0.mk hg
  have hg5 : ¬ 100 < l0.length := hg
  clear hr hc hl hG ha hb hg
  go_enter Tryd.func6, Tryd.ntmps6
  go_wp2_with fail
  go_at_call 8
  refine (awake_c _ HG.out).mono ?_
  rintro e w1 ⟨rfl, hb⟩
  have HB1 := Aside0.mk hb
  clear hb
  obtain ⟨b1, hb1⟩ : ∃ x, x = a1 % 3 := ⟨_, rfl⟩
  obtain ⟨b2, hb2⟩ : ∃ x, x = a2 % 3 := ⟨_, rfl⟩
  have hz1 : 0 ≤ b1 ∧ b1 < 4294967296 := by have := HA.out; omega
  have hz2 : 0 ≤ b2 ∧ b2 < 4294967296 := by have := HBb.out; omega
  have HZ1 := Aside0.mk hz1
  have HZ2 := Aside0.mk hz2
  have ha0 : 0 ≤ a1 := HA.out.1
  have hb0 : 0 ≤ a2 := HBb.out.1
  clear hz1 hz2
  go_wp2_with fail
  rw [← hb1, ← hb2]
  clear hb1 hb2
  go_at_call 11
  refine (close_c b1 b2 a0 cap0 l0 _ (Kd.C_below HR.out HB1.out) HC.out HL.out (by omega) HZ1.out HZ2.out).mono ?_
  rintro e w2 ⟨v, rfl, hv, hb⟩
  have HB2 := Aside0.mk (HB1.out.trans (hb.mono HB1.out.size))
  have HV := Aside0.mk (Kd.R_lower hv HB1.out.size)
  obtain ⟨s, hs⟩ : ∃ s, s = closeI b1 b2 l0 := ⟨_, rfl⟩
  have hsl : s.length ≤ 200 := by rw [hs, closeI_length]; omega
  have hsb : Bytes s := by rw [hs]; exact closeI_bytes HL.out
  rw [← hs] at HV
  clear hs hv hb
  go_wp2_with (at_builtin; refine Kd.R_append_rows (Kd.int .u8) (w0 := w) w.heap.size rfl (.tmp 32) (.tmp 33) 22 5 (.int .u8 0) 1 rfl Tryd.underlying22 info5 rfl (by decide) (by omega) v s l0 _ _ _ (fun _ => True) (fun _ => False) rfl rfl ?aO ?aR (fun _ _ h => h) (fun _ h => h.elim) ?aF ?aB ?aS ?aL ?_; (case aR => exact Kd.C_below HR.out HB2.out); (case aB => exact HB2.out); (case aF => exact (fun _ _ => trivial)); (case aO => exact HV.out); (case aS => exact HB2.out.size); (case aL => have := HG1.out; omega); intro v6 w9 ho hb hg hat; have HO9 := Aside0.mk ho; have HB9 := Aside0.mk hb; clear ho hb hg hat)
  obtain ⟨A6, c6, e6⟩ := Kd.R_slice HO9.out
  subst e6
  have HL9 : Aside0 (Bytes (s ++ l0)) := ⟨hsb.append HL.out⟩
  have HP := Aside0.mk (Kd.R_reads' HO9.out).2.2
  have HPC := Aside0.mk (Kd.R_reads' HO9.out).2.1
  have HPL := HL9
  have hpm : (s ++ l0).length ≤ 1000 := by rw [List.length_append]; omega
  have HPM := Aside0.mk hpm
  have HBW := HB9
  obtain ⟨p, hp⟩ : ∃ p, p = s ++ l0 := ⟨_, rfl⟩
  rw [← hp] at HP HPC HPL HPM ⊢
  clear HL9 HO9 HB9 HV HB2 HZ1 HZ2 hp hsl hsb hpm
  rcases open_cases HPL.out a1 a2 with ⟨e, he, q1, q2, q3⟩ | ⟨n, x, y, hn0, hn1, hn2, q1, hq⟩
  · have Q1 := Aside0.mk q1
    have Q2 := Aside0.mk q2
    have Q3 := Aside0.mk q3
    have he0 : (e != 0) = true := by rcases he with rfl | rfl | rfl <;> rfl
    clear q1 q2 q3 he
    go_at_call 14
    refine (ref_c A6 c6 p _ _ _ _ _ HP.out HPC.out HPL.out HPM.out Q1.out).mono ?_
    rintro e' w3 ⟨rfl, hb⟩
    have HB3 := Aside0.mk (HBW.out.trans (hb.mono HBW.out.size))
    have HP3 := Aside0.mk (Kd.C_below HP.out hb)
    clear hb HP HBW
    go_wp2_with fail
    go_at_call 12
    refine (open_c _ _ A6 c6 p _ _ _ _ HP3.out HPC.out (Kd.C_below HG.out HB3.out) HPL.out HPM.out Q2.out).mono ?_
    rintro e' w4 ⟨v, rfl, hq, hb⟩
    have HB4 := Aside0.mk (HB3.out.trans (hb.mono HB3.out.size))
    have HP4 := Aside0.mk (Kd.C_below HP3.out hb)
    have HQ4 := Aside0.mk hq
    clear hb HP3 HB3 hq
    obtain ⟨Aq, cq, eq⟩ := Kd.R_slice HQ4.out
    go_wp2_with fail
    go_at_call 15
    refine (age_c _ A6 c6 p _ _ _ HP4.out HPC.out (Kd.C_below HG.out HB4.out) HPL.out HPM.out Q3.out).mono ?_
    rintro e' w5 ⟨rfl, hb⟩
    have HB5 := Aside0.mk (HB4.out.trans (hb.mono HB4.out.size))
    have HP5 := Aside0.mk (Kd.C_below HP4.out hb)
    have HQ := Aside0.mk (Kd.R_below HQ4.out hb)
    clear hb HP4 HB4 HQ4
    subst eq
    go_wp2_with fail
    go_ret
    exact ⟨rfl, HB5.out⟩
  have Q1 := Aside0.mk q1
  clear q1
  rcases hq with ⟨hx, hy, q2, q3⟩ | ⟨hx, hy, q2, q3⟩ | ⟨hy, q2, q3⟩
  · obtain ⟨body, hbody⟩ : ∃ b, b = (p.take (16 + n).toNat).drop 16 := ⟨_, rfl⟩
    rw [← hbody] at q2
    have HBD := Aside0.mk hbody
    have Q2 := Aside0.mk q2
    have Q3 := Aside0.mk q3
    clear q2 q3 hbody
    subst hx hy
    go_at_call 14
    refine (ref_c A6 c6 p _ _ _ _ _ HP.out HPC.out HPL.out HPM.out Q1.out).mono ?_
    rintro e' w3 ⟨rfl, hb⟩
    have HB3 := Aside0.mk (HBW.out.trans (hb.mono HBW.out.size))
    have HP3 := Aside0.mk (Kd.C_below HP.out hb)
    clear hb HP HBW
    go_wp2_with fail
    go_at_call 12
    refine (open_c _ _ A6 c6 p _ _ _ _ HP3.out HPC.out (Kd.C_below HG.out HB3.out) HPL.out HPM.out Q2.out).mono ?_
    rintro e' w4 ⟨v, rfl, hq, hb⟩
    have HB4 := Aside0.mk (HB3.out.trans (hb.mono HB3.out.size))
    have HP4 := Aside0.mk (Kd.C_below HP3.out hb)
    have HQ4 := Aside0.mk hq
    clear hb HP3 HB3 hq
    obtain ⟨Aq, cq, eq⟩ := Kd.R_slice HQ4.out
    go_wp2_with fail
    go_at_call 15
    refine (age_c _ A6 c6 p _ _ _ HP4.out HPC.out (Kd.C_below HG.out HB4.out) HPL.out HPM.out Q3.out).mono ?_
    rintro e' w5 ⟨rfl, hb⟩
    have HB5 := Aside0.mk (HB4.out.trans (hb.mono HB4.out.size))
    have HP5 := Aside0.mk (Kd.C_below HP4.out hb)
    have HQ := Aside0.mk (Kd.R_below HQ4.out hb)
    clear hb HP4 HB4 HQ4
    subst eq
    obtain ⟨i0, hi, hz0, hz1, hz2⟩ := info_parts info5
    have hsl := cut_mid (P := Tryd.prog) 22 5 .i64 .i64 Tryd.underlying22 hi 1 hz1 A6 p.length c6 16 (16 + n) (by decide) (by omega) (by omega) HPC.out
    have hmid := Kd.C_mid (lo := 16) (hi := (16 + n).toNat) (HP5.out) (by omega) (by omega) HPC.out
    obtain ⟨A', hA'⟩ : ∃ A', A' = (if c6 = (16 : Int).toNat then A6 else A6.map (·.add ((16 : Int).toNat * 1))) := ⟨_, rfl⟩
    rw [← hA'] at hsl
    have hmid' : Kd.C (Kd.int .u8) w5 A' ((p.take (16 + n).toNat).drop 16).length ((p.take (16 + n).toNat).drop 16) := by rw [hA']; exact hmid
    have hlm : ((p.take (16 + n).toNat).drop 16).length = (16 + n).toNat - (16 : Int).toNat := by rw [List.length_drop, List.length_take]; omega
    rw [← HBD.out] at hmid' hlm
    obtain ⟨m, hm⟩ : ∃ m, m = (16 + n).toNat - (16 : Int).toNat := ⟨_, rfl⟩
    rw [← hm] at hsl hlm
    rw [hlm] at hmid'
    have hs1 := fun (q_ : Nat) => own_string (P := Tryd.prog) Tryd.underlying22 Tryd.underlying5 Tryd.underlying9 (Kd.own_of_R (R_same (W := w5.drewN q_) HQ.out rfl))
    have hs2 := fun (q_ C : Nat) => Kd.C_string (c := C) (P := Tryd.prog) Tryd.underlying22 Tryd.underlying5 Tryd.underlying9 (C_same (W := w5.drewN q_) hmid' rfl)
    clear hmid hmid' hA' hlm hm hi hz0 hz1 hz2
    go_wp2_with fail
    go_quiet (fail)
    go_wp2_with fail
    go_ret
    exact ⟨rfl, by first | exact HB5.out | exact pw_below_drewN HB5.out _⟩
  · have Q2 := Aside0.mk q2
    have Q3 := Aside0.mk q3
    have hx' : (x != a1) = true := by simpa using hx
    clear q2 q3 hx
    subst hy
    go_at_call 14
    refine (ref_c A6 c6 p _ _ _ _ _ HP.out HPC.out HPL.out HPM.out Q1.out).mono ?_
    rintro e' w3 ⟨rfl, hb⟩
    have HB3 := Aside0.mk (HBW.out.trans (hb.mono HBW.out.size))
    have HP3 := Aside0.mk (Kd.C_below HP.out hb)
    clear hb HP HBW
    go_wp2_with fail
    go_at_call 12
    refine (open_c _ _ A6 c6 p _ _ _ _ HP3.out HPC.out (Kd.C_below HG.out HB3.out) HPL.out HPM.out Q2.out).mono ?_
    rintro e' w4 ⟨v, rfl, hq, hb⟩
    have HB4 := Aside0.mk (HB3.out.trans (hb.mono HB3.out.size))
    have HP4 := Aside0.mk (Kd.C_below HP3.out hb)
    have HQ4 := Aside0.mk hq
    clear hb HP3 HB3 hq
    obtain ⟨Aq, cq, eq⟩ := Kd.R_slice HQ4.out
    go_wp2_with fail
    go_at_call 15
    refine (age_c _ A6 c6 p _ _ _ HP4.out HPC.out (Kd.C_below HG.out HB4.out) HPL.out HPM.out Q3.out).mono ?_
    rintro e' w5 ⟨rfl, hb⟩
    have HB5 := Aside0.mk (HB4.out.trans (hb.mono HB4.out.size))
    have HP5 := Aside0.mk (Kd.C_below HP4.out hb)
    have HQ := Aside0.mk (Kd.R_below HQ4.out hb)
    clear hb HP4 HB4 HQ4
    subst eq
    go_wp2_with fail
    go_ret
    exact ⟨rfl, HB5.out⟩
  · have Q2 := Aside0.mk q2
    have Q3 := Aside0.mk q3
    have hy' : (y != a2) = true := by simpa using hy
    clear q2 q3 hy
    go_at_call 14
    refine (ref_c A6 c6 p _ _ _ _ _ HP.out HPC.out HPL.out HPM.out Q1.out).mono ?_
    rintro e' w3 ⟨rfl, hb⟩
    have HB3 := Aside0.mk (HBW.out.trans (hb.mono HBW.out.size))
    have HP3 := Aside0.mk (Kd.C_below HP.out hb)
    clear hb HP HBW
    go_wp2_with fail
    go_at_call 12
    refine (open_c _ _ A6 c6 p _ _ _ _ HP3.out HPC.out (Kd.C_below HG.out HB3.out) HPL.out HPM.out Q2.out).mono ?_
    rintro e' w4 ⟨v, rfl, hq, hb⟩
    have HB4 := Aside0.mk (HB3.out.trans (hb.mono HB3.out.size))
    have HP4 := Aside0.mk (Kd.C_below HP3.out hb)
    have HQ4 := Aside0.mk hq
    clear hb HP3 HB3 hq
    obtain ⟨Aq, cq, eq⟩ := Kd.R_slice HQ4.out
    go_wp2_with fail
    go_at_call 15
    refine (age_c _ A6 c6 p _ _ _ HP4.out HPC.out (Kd.C_below HG.out HB4.out) HPL.out HPM.out Q3.out).mono ?_
    rintro e' w5 ⟨rfl, hb⟩
    have HB5 := Aside0.mk (HB4.out.trans (hb.mono HB4.out.size))
    have HP5 := Aside0.mk (Kd.C_below HP4.out hb)
    have HQ := Aside0.mk (Kd.R_below HQ4.out hb)
    clear hb HP4 HB4 HQ4
    subst eq
    go_wp2_with fail
    all_goals
      go_ret
      exact ⟨rfl, HB5.out⟩
theorem opens_any (a0 : Option Addr) (len0 cap0 : Nat) (z0 : List Int) (a1 a2 : Int) (a3 : Bool) (w : World) (w0 : (a0 = none ∧ len0 = 0 ∧ cap0 = 0 ∧ z0 = []) ∨ ∃ x, a0 = some x ∧ len0 ≤ cap0 ∧ cap0 ≤ maxLen ∧ z0.length = cap0 ∧ (∀ i, i < z0.length → w.cell? (x.add i) = some (.int .u8 (z0.getD i 0))) ∧ ∀ n ∈ z0, (Lit.int .u8 n).wf = true)
    (w1 : (Lit.int .u32 a1).wf = true) (w2 : (Lit.int .u32 a2).wf = true) (hG : G w) :
    Calls Tryd.prog 6 #[.slice a0 len0 cap0, .int .u32 a1, .int .u32 a2, .bool a3] w fun e w' => e = .returned (.bool true) ∧ Below w.heap.size w w' := by
  obtain ⟨l0, rfl, hr0, hm0, hw0, hc0⟩ := ReadsInt.ofRowC w0
  have hr := Kd.C_of_reads (d := (0 : Int)) (h1 := fun _ => rfl) hr0
  have b1 := bounds_u32 w1
  have b2 := bounds_u32 w2
  by_cases hg : 100 < l0.length
  · exact opens_long a0 cap0 l0 a1 a2 a3 w hr hc0 (bytes_of hw0) hG (by omega) (by omega) hg
  · cases a3
    · exact opens_short a0 cap0 l0 a1 a2 w hr hc0 (bytes_of hw0) hG (by omega) (by omega) hg
    · exact opens_whole a0 cap0 l0 a1 a2 w hr hc0 (bytes_of hw0) hG (by omega) (by omega) hg
end Go.Proofs.YtifefhdinnechaaDoor
