/- PlateTorn: a write at which it stops is there with so many bytes, and behind them what was there; or not at all. -/
import Derived.Test.YtcobkideokljfaaPlateH
import Derived.OpenShut
import Derived.Deep.OwnRows
import Derived.Deep.LoopGhost
import Derived.LoopTactic
namespace Go.Proofs.Ytcobkideokljfaa
open Go.RowKit Go.Proofs.YtcobkideokljfaaW.PrintWords
set_option linter.unusedVariables false
set_option linter.unusedSimpArgs false

theorem infoB : (Try.prog.info? 5).map (fun i => (i.zero, i.size, i.bytes)) = some (some (.int .u8 0), 1, 1) := by kernel_rfl
theorem made64 : madeCells #[.int .u8 0] 64 = (U z64).toArray := by
  apply Array.toList_inj.1
  rw [getZ #[.int .u8 0] (.int .u8 0) (fun i hi => by simp at hi; subst hi; rfl) (by simp) 64]
  rfl
theorem splice_pad0 {bs : List Int} (h : bs.length ≤ 64) : (splice (U z64) 0 (U bs)).toArray = (U (pad bs)).toArray := by
  unfold splice pad
  congr 1
  have e : (U z64).drop (0 + (U bs).length) = U (List.replicate (64 - bs.length) 0) := by
    rw [Nat.zero_add, U, U, ← List.map_drop, List.drop_replicate, List.length_map]
  rw [e]
  simp [U]
theorem torn_long (A0 A1 : Option Addr) (c0 c1 : Nat) (l0 l1 : List Int) (sp : Int) (keep : Bool) (w : World) (h : 64 < l0.length ∨ 64 < l1.length) :
    Calls Try.prog 4 #[.slice A0 l0.length c0, .slice A1 l1.length c1, .int .u8 sp, .bool keep] w fun e w' => e = .returned (.bool true) ∧ Below w.heap.size w w' := by
  by_cases h0 : 64 < l0.length
  · have h0' : (64 : Int) < (l0.length : Int) := by omega
    clear h
    go_enter Try.func4, Try.ntmps4
    go_wp2_with fail
    go_at_call 8
    refine (awake_c _).mono ?_
    rintro e w1 ⟨rfl, hb1⟩
    go_wp2_with fail
    go_at_call 8
    refine (awake_c _).mono ?_
    rintro e w2 ⟨rfl, hb2⟩
    go_wp2_with fail
    go_ret
    exact ⟨rfl, hb1.trans (hb2.mono hb1.size)⟩
  · have h1 : (64 : Int) < (l1.length : Int) := by omega
    have h0' : ¬ (64 : Int) < (l0.length : Int) := by omega
    clear h
    go_enter Try.func4, Try.ntmps4
    go_wp2_with fail
    go_at_call 8
    refine (awake_c _).mono ?_
    rintro e w1 ⟨rfl, hb1⟩
    go_wp2_with fail
    go_at_call 8
    refine (awake_c _).mono ?_
    rintro e w2 ⟨rfl, hb2⟩
    go_wp2_with fail
    go_ret
    exact ⟨rfl, hb1.trans (hb2.mono hb1.size)⟩
theorem torn_set {i : Nat} {b s : List Int} {f : Int} (hi : i < 64) (hb : b.length = 64) (hs : s.length = 64) (hf : b[i]? = some f) : (torn i b s).set i f = torn (i + 1) b s := by
  unfold torn
  rw [List.set_append_right _ _ (by simp; omega), List.length_take, hb, Nat.min_eq_left (by omega), Nat.sub_self, List.take_add_one, hf]
  have e : s.drop i = s[i]'(by omega) :: s.drop (i + 1) := List.drop_eq_getElem_cons (by omega)
  rw [e, List.set_cons_zero]
  simp
/-- What is told when the law looks. -/
structure TT (w V : World) (gs gw gf : Nat) (s x y : List Int) : Prop where
  b : Below w.heap.size w V
  s : V.heap[gs]? = some (.cells (U s).toArray 55 (0, 0))
  x : V.heap[gw]? = some (.cells (U x).toArray 5 (0, 0))
  y : V.heap[gf]? = some (.cells (U y).toArray 5 (0, 0))
/-- What the plate is behind a write at which it stops. -/
def tornSt (S : List Int) (b : List Int) (a sp : Int) : St := ⟨[S], if 0 < sp then [(0, torn (min sp.toNat 64) (pad b) S)] else [], 0, true, a, sp⟩
theorem write_tornSt (S : List Int) (a sp : Int) (b : List Int) : St.write ⟨[S], [], 0, false, a, sp⟩ 0 b = (tornSt S b a sp, 7) := by
  have h : St.act ⟨[S], [], 0, false, a, sp⟩ = (⟨[S], [], 0, true, a, sp⟩, 7) := by simp [St.act]
  unfold St.write tornSt
  rw [h]
  dsimp only
  rw [if_neg (by decide)]
  by_cases hs : 0 < sp
  · rw [if_pos ⟨rfl, hs⟩, if_pos hs]; rfl
  · rw [if_neg (fun k => hs k.2), if_neg hs]
theorem flush_off (S : List (List Int)) (W : List Wr) (l a s : Int) : St.flush ⟨S, W, l, true, a, s⟩ = (⟨S, W, l, true, a, s⟩, 7) := by simp [St.flush, St.act]
/-- What is there behind the fall. -/
def fell (S b : List Int) (sp : Int) (keep : Bool) : List Int := if keep = true then torn (min sp.toNat 64) (pad b) S else S
theorem fall_torn (S b : List Int) (a sp : Int) (keep : Bool) (h0 : 0 ≤ sp) (n : Nat) (hn : n = if keep = true then 1 else 0) : St.fall (tornSt S b a sp) n = ⟨[fell S b sp keep], [], -1, false, a, 0⟩ := by
  subst hn
  unfold tornSt
  rw [fall_eq]
  cases keep
  · simp [drySafe, fell]
  · by_cases hs : 0 < sp
    · simp [hs, drySafe, fell]
    · have : sp = 0 := by omega
      subst this
      simp [drySafe, fell, torn]
set_option maxHeartbeats 8000000 in
theorem torn_short (A0 A1 : Option Addr) (c0 c1 : Nat) (l0 l1 : List Int) (sp : Int) (keep : Bool) (w : World) (g0 : l0.length ≤ 64) (g1 : l1.length ≤ 64) (hsp : 0 ≤ sp ∧ sp < 256)
    (hr0 : Kd.C (Kd.int .u8) w A0 l0.length l0) (hr1 : Kd.C (Kd.int .u8) w A1 l1.length l1) :
    Calls Try.prog 4 #[.slice A0 l0.length c0, .slice A1 l1.length c1, .int .u8 sp, .bool keep] w fun e w' => e = .returned (.bool true) ∧ Below w.heap.size w w' := by
  have HR0 := Aside0.mk hr0
  have HR1 := Aside0.mk hr1
  have HG0 := Aside0.mk g0
  have HG1 := Aside0.mk g1
  have HSP := Aside0.mk hsp
  have h0' : ¬ (64 : Int) < (l0.length : Int) := by omega
  have h1' : ¬ (64 : Int) < (l1.length : Int) := by omega
  have hwsp : wrap64 sp = sp := by unfold wrap64; omega
  clear hr0 hr1 g0 g1 hsp
  go_enter Try.func4, Try.ntmps4
  go_wp2_with fail
  go_at_call 8
  refine (awake_c _).mono ?_
  rintro e w0 ⟨rfl, hb0⟩
  have HB0 := Aside0.mk hb0
  clear hb0
  go_wp2_with fail
  go_at_call 9
  refine (new_c 1 1 (by decide) (by omega) _).mono ?_
  rintro e w1 ⟨c, rfl, hb, sv, wv, h, ho⟩
  have H1 : Aside0 (Pl w w1 c sv wv ⟨[z64], [], -1, false, 0, 0⟩) := ⟨⟨h, HB0.out.trans (hb.mono HB0.out.size), fun k hk => Nat.le_trans HB0.out.size (ho k hk)⟩⟩
  clear h hb ho
  go_wp2_with fail
  go_at_call 10
  refine (write_c H1.out.is 0 (by simp) l0 HG0.out (by simp) A0 c0 (Kd.C_below HR0.out H1.out.below)).mono ?_
  rintro e w2 ⟨rfl, wv2, h2, f2, o2⟩
  rw [write_free] at h2 ⊢
  have H2 := Aside0.mk (H1.out.step h2 f2 o2)
  clear h2 f2 o2 H1
  go_wp2_with fail
  go_at_call 11
  refine (flush_c H2.out.is).mono ?_
  rintro e w3 ⟨rfl, ⟨wv3, h3, o3⟩, f3⟩
  rw [flush_free] at h3 ⊢
  have H3 : Aside0 (Pl w w3 c sv wv3 ⟨[pad l0], [], -1, false, wrap64 (wrap64 (0 + 1) + 1), 0⟩) := ⟨H2.out.step h3 f3 (fun k hk => .inl (o3 k hk))⟩
  clear h3 f3 o3 H2
  obtain ⟨ac, hac⟩ : ∃ ac, ac = wrap64 (wrap64 (0 + 1) + 1) := ⟨_, rfl⟩
  rw [← hac] at H3
  clear hac
  go_wp2_with fail
  go_at_call 16
  refine (arm_c H3.out.is 0 sp).mono ?_
  rintro e w4 ⟨rfl, h4, f4⟩
  have H4 : Aside0 (Pl w w4 c sv wv3 ⟨[pad l0], [], 0, false, ac, sp⟩) := ⟨by
    have e : St.arm ⟨[pad l0], [], -1, false, ac, 0⟩ 0 sp = ⟨[pad l0], [], 0, false, ac, sp⟩ := by
      have := HSP.out
      simp [St.arm, mx]
      omega
    rw [← e]
    exact H3.out.step h4 (f4.mono (fun i h => .inl h)) (fun k hk => .inl hk)⟩
  clear h4 f4 H3
  go_wp2_with fail
  go_at_call 10
  refine (write_c H4.out.is 0 (by simp) l1 HG1.out (by simp) A1 c1 (Kd.C_below HR1.out H4.out.below)).mono ?_
  rintro e w5 ⟨rfl, wv5, h5, f5, o5⟩
  rw [write_tornSt] at h5 ⊢
  have H5 := Aside0.mk (H4.out.step h5 f5 o5)
  clear h5 f5 o5 H4
  go_wp2_with fail
  go_at_call 17
  refine (on_c H5.out.is).mono ?_
  rintro e w6 ⟨rfl, rfl⟩
  rw [show (tornSt (pad l0) l1 ac sp).off = true from rfl]
  go_wp2_with fail
  go_at_call 11
  refine (flush_c H5.out.is).mono ?_
  rintro e w7 ⟨rfl, ⟨wv7, h7, o7⟩, f7⟩
  rw [show St.flush (tornSt (pad l0) l1 ac sp) = (tornSt (pad l0) l1 ac sp, 7) from flush_off _ _ _ _ _] at h7 ⊢
  have H7 := Aside0.mk (H5.out.step h7 f7 (fun k hk => .inl (o7 k hk)))
  clear h7 f7 o7 H5
  obtain ⟨iB, hiB, hzB, hsB, hbB⟩ := info_parts infoB
  cases keep
  · go_wp2_with fail
    go_at_call 14
    refine (fall_c H7.out.is 0).mono ?_
    rintro e w8 ⟨rfl, h8, f8⟩
    rw [fall_torn _ _ _ _ false HSP.out.1 _ (by rfl)] at h8
    have H8 := Aside0.mk (H7.out.step h8 f8 own_nilw)
    clear h8 f8 H7
    go_wp2_with fail
    go_at_call 15
    refine (read_c H8.out.is rfl 0 (by simp)).mono ?_
    rintro e w9 ⟨gs, rfl, hgs, hs, hb⟩
    have HS9 : Aside0 (w9.heap[gs]? = some (.cells (U (fell (pad l0) l1 sp false)).toArray 55 (0, 0))) := ⟨hs⟩
    have HB9 : Aside0 (Below w.heap.size w w9) := ⟨H8.out.below.trans (hb.mono H8.out.below.size)⟩
    have HGS : Aside0 (w.heap.size ≤ gs) := ⟨Nat.le_trans H8.out.below.size hgs⟩
    clear hgs hs hb H8
    clear HB0
    clear w8 w7 w6 w4 w3 w2 w1 w0
    go_wp2_with (first
      | ((with_reducible refine gate_dst (N := 61) rfl ?_)
         refine wpList_make_row _ rfl (.const (.int .i64 64)) (.const (.int .i64 64)) 22 rfl 5 iB (.int .u8 0) Try.underlying22 hiB hzB hsB rfl .i64 .i64 64 rfl rfl (by rw [hbB]; omega) (by omega) ?_
         rw [made64]
         obtain ⟨V, hV⟩ : ∃ V, V = w9.alloc (.cells (U z64).toArray 5) := ⟨_, rfl⟩
         obtain ⟨gw, hgw⟩ : ∃ gw, gw = w9.heap.size := ⟨_, rfl⟩
         have HT : Aside0 (TT w V gs gw gw (fell (pad l0) l1 sp false) z64 z64 ∧ gs < gw) := ⟨⟨by rw [hV]; exact below_alloc HB9.out _, by rw [hV]; exact blk_alloc HS9.out _, by rw [hV, hgw]; exact blk_new _ _, by rw [hV, hgw]; exact blk_new _ _⟩, by rw [hgw]; exact blk_lt HS9.out⟩
         have HGW : Aside0 (w.heap.size ≤ gw) := ⟨by rw [hgw]; exact HB9.out.size⟩
         rw [← hV, ← hgw]
         clear hV hgw)
      | ((with_reducible refine gate_dst (N := 64) rfl ?_)
         refine wpList_copy_splice rfl (.tmp 62) (.tmp 63) 22 22 rfl 5 Try.underlying22 (by kernel_rfl) (some ⟨gw, 0, none⟩) A0 64 64 l0.length c0 rfl rfl gw 0 (U z64) 5 HT.out.1.x (U l0) (by rw [List.length_map]; exact (Nat.min_eq_left HG0.out).symm) (fun h => ⟨rfl, src_of (Kd.C_below HR0.out HT.out.1.b) (by simpa using h)⟩) (by have := HG0.out; rw [List.length_map, List.length_map, List.length_replicate]; omega) (fun u hu => by obtain ⟨y, _, rfl⟩ := List.mem_map.1 hu; rfl) gw V (Below.refl _ _) (Nat.le_refl _) ?_
         intro V2 hx hy
         have HT2 : Aside0 (TT w V2 gs gw gw (fell (pad l0) l1 sp false) (pad l0) (pad l0) ∧ gs < gw) := ⟨⟨HT.out.1.b.trans (hy.mono HGW.out), (hy.block gs HT.out.2).trans HT.out.1.s, by rw [← splice_pad0 HG0.out]; exact hx, by rw [← splice_pad0 HG0.out]; exact hx⟩, HT.out.2⟩
         clear hx hy)
      | ((with_reducible refine gate_dst (N := 65) rfl ?_)
         refine wpList_make_row _ rfl (.const (.int .i64 64)) (.const (.int .i64 64)) 22 rfl 5 iB (.int .u8 0) Try.underlying22 hiB hzB hsB rfl .i64 .i64 64 rfl rfl (by rw [hbB]; omega) (by omega) ?_
         rw [made64]
         obtain ⟨V3, hV⟩ : ∃ V3, V3 = V2.alloc (.cells (U z64).toArray 5) := ⟨_, rfl⟩
         obtain ⟨gf, hgf⟩ : ∃ gf, gf = V2.heap.size := ⟨_, rfl⟩
         have HT3 : Aside0 (TT w V3 gs gw gf (fell (pad l0) l1 sp false) (pad l0) z64 ∧ gs < gw ∧ gw < gf) := ⟨⟨by rw [hV]; exact below_alloc HT2.out.1.b _, by rw [hV]; exact blk_alloc HT2.out.1.s _, by rw [hV]; exact blk_alloc HT2.out.1.x _, by rw [hV, hgf]; exact blk_new _ _⟩, HT2.out.2, by rw [hgf]; exact blk_lt HT2.out.1.x⟩
         rw [← hV, ← hgf]
         clear hV hgf)
      | ((with_reducible refine gate_dst (N := 68) rfl ?_)
         refine wpList_copy_splice rfl (.tmp 66) (.tmp 67) 22 22 rfl 5 Try.underlying22 (by kernel_rfl) (some ⟨gf, 0, none⟩) A1 64 64 l1.length c1 rfl rfl gf 0 (U z64) 5 HT3.out.1.y (U l1) (by rw [List.length_map]; exact (Nat.min_eq_left HG1.out).symm) (fun h => ⟨rfl, src_of (Kd.C_below HR1.out HT3.out.1.b) (by simpa using h)⟩) (by have := HG1.out; rw [List.length_map, List.length_map, List.length_replicate]; omega) (fun u hu => by obtain ⟨y, _, rfl⟩ := List.mem_map.1 hu; rfl) gf V3 (Below.refl _ _) (Nat.le_refl _) ?_
         intro V4 hx hy
         have HT4 : Aside0 (TT w V4 gs gw gf (fell (pad l0) l1 sp false) (pad l0) (pad l1) ∧ gs < gw ∧ gw < gf) := ⟨⟨HT3.out.1.b.trans (hy.mono (Nat.le_of_lt (Nat.lt_of_le_of_lt HGW.out HT3.out.2.2))), (hy.block gs (Nat.lt_trans HT3.out.2.1 HT3.out.2.2)).trans HT3.out.1.s, (hy.block gw HT3.out.2.2).trans HT3.out.1.x, by rw [← splice_pad0 HG1.out]; exact hx⟩, HT3.out.2⟩
         clear hx hy))
    clear HT HT2 HT3
    clear V V2 V3
    have HSL : Aside0 ((fell (pad l0) l1 sp false).length = 64) := ⟨pad_len HG0.out⟩
    go_loopg [15] 1 (fun kq v15 wr => v15 = .int .i64 0 ∧ Aside0 (TT w wr gs gw gf (fell (pad l0) l1 sp false) (pad l0) (pad l1)))
    case atStart => exact ⟨rfl, ⟨HT4.out.1⟩⟩
    case round =>
      obtain ⟨rfl, HT⟩ := hrel
      have HTX : TT w wr gs gw gf (fell (pad l0) l1 sp false) (fell (pad l0) l1 sp false) (pad l1) := HT.out
      have hcs := Kd.C_string (P := Try.prog) (c := 64) Try.underlying22 Try.underlying5 Try.underlying9 (sec_C HTX.s HSL.out)
      have hcw := Kd.C_string (P := Try.prog) (c := 64) Try.underlying22 Try.underlying5 Try.underlying9 (sec_C HTX.x HSL.out)
      rw [HSL.out] at hcs hcw
      have HBX := Aside0.mk HTX.b
      clear HTX HT
      go_wp2_with fail
      go_ret
      exact ⟨rfl, HBX.out⟩
  · go_wp2_with fail
    go_at_call 14
    refine (fall_c H7.out.is 1).mono ?_
    rintro e w8 ⟨rfl, h8, f8⟩
    rw [fall_torn _ _ _ _ true HSP.out.1 _ (by rfl)] at h8
    have H8 := Aside0.mk (H7.out.step h8 f8 own_nilw)
    clear h8 f8 H7
    go_wp2_with fail
    go_at_call 15
    refine (read_c H8.out.is rfl 0 (by simp)).mono ?_
    rintro e w9 ⟨gs, rfl, hgs, hs, hb⟩
    have HS9 : Aside0 (w9.heap[gs]? = some (.cells (U (fell (pad l0) l1 sp true)).toArray 55 (0, 0))) := ⟨hs⟩
    have HB9 : Aside0 (Below w.heap.size w w9) := ⟨H8.out.below.trans (hb.mono H8.out.below.size)⟩
    have HGS : Aside0 (w.heap.size ≤ gs) := ⟨Nat.le_trans H8.out.below.size hgs⟩
    clear hgs hs hb H8
    clear HB0
    clear w8 w7 w6 w4 w3 w2 w1 w0
    go_wp2_with (first
      | ((with_reducible refine gate_dst (N := 61) rfl ?_)
         refine wpList_make_row _ rfl (.const (.int .i64 64)) (.const (.int .i64 64)) 22 rfl 5 iB (.int .u8 0) Try.underlying22 hiB hzB hsB rfl .i64 .i64 64 rfl rfl (by rw [hbB]; omega) (by omega) ?_
         rw [made64]
         obtain ⟨V, hV⟩ : ∃ V, V = w9.alloc (.cells (U z64).toArray 5) := ⟨_, rfl⟩
         obtain ⟨gw, hgw⟩ : ∃ gw, gw = w9.heap.size := ⟨_, rfl⟩
         have HT : Aside0 (TT w V gs gw gw (fell (pad l0) l1 sp true) z64 z64 ∧ gs < gw) := ⟨⟨by rw [hV]; exact below_alloc HB9.out _, by rw [hV]; exact blk_alloc HS9.out _, by rw [hV, hgw]; exact blk_new _ _, by rw [hV, hgw]; exact blk_new _ _⟩, by rw [hgw]; exact blk_lt HS9.out⟩
         have HGW : Aside0 (w.heap.size ≤ gw) := ⟨by rw [hgw]; exact HB9.out.size⟩
         rw [← hV, ← hgw]
         clear hV hgw)
      | ((with_reducible refine gate_dst (N := 64) rfl ?_)
         refine wpList_copy_splice rfl (.tmp 62) (.tmp 63) 22 22 rfl 5 Try.underlying22 (by kernel_rfl) (some ⟨gw, 0, none⟩) A0 64 64 l0.length c0 rfl rfl gw 0 (U z64) 5 HT.out.1.x (U l0) (by rw [List.length_map]; exact (Nat.min_eq_left HG0.out).symm) (fun h => ⟨rfl, src_of (Kd.C_below HR0.out HT.out.1.b) (by simpa using h)⟩) (by have := HG0.out; rw [List.length_map, List.length_map, List.length_replicate]; omega) (fun u hu => by obtain ⟨y, _, rfl⟩ := List.mem_map.1 hu; rfl) gw V (Below.refl _ _) (Nat.le_refl _) ?_
         intro V2 hx hy
         have HT2 : Aside0 (TT w V2 gs gw gw (fell (pad l0) l1 sp true) (pad l0) (pad l0) ∧ gs < gw) := ⟨⟨HT.out.1.b.trans (hy.mono HGW.out), (hy.block gs HT.out.2).trans HT.out.1.s, by rw [← splice_pad0 HG0.out]; exact hx, by rw [← splice_pad0 HG0.out]; exact hx⟩, HT.out.2⟩
         clear hx hy)
      | ((with_reducible refine gate_dst (N := 65) rfl ?_)
         refine wpList_make_row _ rfl (.const (.int .i64 64)) (.const (.int .i64 64)) 22 rfl 5 iB (.int .u8 0) Try.underlying22 hiB hzB hsB rfl .i64 .i64 64 rfl rfl (by rw [hbB]; omega) (by omega) ?_
         rw [made64]
         obtain ⟨V3, hV⟩ : ∃ V3, V3 = V2.alloc (.cells (U z64).toArray 5) := ⟨_, rfl⟩
         obtain ⟨gf, hgf⟩ : ∃ gf, gf = V2.heap.size := ⟨_, rfl⟩
         have HT3 : Aside0 (TT w V3 gs gw gf (fell (pad l0) l1 sp true) (pad l0) z64 ∧ gs < gw ∧ gw < gf) := ⟨⟨by rw [hV]; exact below_alloc HT2.out.1.b _, by rw [hV]; exact blk_alloc HT2.out.1.s _, by rw [hV]; exact blk_alloc HT2.out.1.x _, by rw [hV, hgf]; exact blk_new _ _⟩, HT2.out.2, by rw [hgf]; exact blk_lt HT2.out.1.x⟩
         rw [← hV, ← hgf]
         clear hV hgf)
      | ((with_reducible refine gate_dst (N := 68) rfl ?_)
         refine wpList_copy_splice rfl (.tmp 66) (.tmp 67) 22 22 rfl 5 Try.underlying22 (by kernel_rfl) (some ⟨gf, 0, none⟩) A1 64 64 l1.length c1 rfl rfl gf 0 (U z64) 5 HT3.out.1.y (U l1) (by rw [List.length_map]; exact (Nat.min_eq_left HG1.out).symm) (fun h => ⟨rfl, src_of (Kd.C_below HR1.out HT3.out.1.b) (by simpa using h)⟩) (by have := HG1.out; rw [List.length_map, List.length_map, List.length_replicate]; omega) (fun u hu => by obtain ⟨y, _, rfl⟩ := List.mem_map.1 hu; rfl) gf V3 (Below.refl _ _) (Nat.le_refl _) ?_
         intro V4 hx hy
         have HT4 : Aside0 (TT w V4 gs gw gf (fell (pad l0) l1 sp true) (pad l0) (pad l1) ∧ gs < gw ∧ gw < gf) := ⟨⟨HT3.out.1.b.trans (hy.mono (Nat.le_of_lt (Nat.lt_of_le_of_lt HGW.out HT3.out.2.2))), (hy.block gs (Nat.lt_trans HT3.out.2.1 HT3.out.2.2)).trans HT3.out.1.s, (hy.block gw HT3.out.2.2).trans HT3.out.1.x, by rw [← splice_pad0 HG1.out]; exact hx⟩, HT3.out.2⟩
         clear hx hy))
    clear HT HT2 HT3
    clear V V2 V3
    have HSL : Aside0 ((fell (pad l0) l1 sp true).length = 64) := ⟨torn_len (Nat.min_le_right _ _) (pad_len HG1.out) (pad_len HG0.out)⟩
    have HP0 := Aside0.mk (pad_len HG0.out)
    have HP1 := Aside0.mk (pad_len HG1.out)
    go_loopg [15] 65 (fun kq v15 wr => ∃ i : Nat, v15 = .int .i64 i ∧ i ≤ 64 ∧ Aside0 (kq = 65 - i) ∧ Aside0 (i ≤ sp.toNat) ∧ Aside0 (TT w wr gs gw gf (fell (pad l0) l1 sp true) (torn i (pad l1) (pad l0)) (pad l1)))
    case atStart => exact ⟨0, rfl, by omega, ⟨rfl⟩, ⟨by omega⟩, ⟨by simpa [torn] using HT4.out.1⟩⟩
    case round =>
      obtain ⟨i, rfl, hi, hkq, HIS, HT⟩ := hrel
      have hsp0 := HSP.out
      by_cases hlt : i < 64 ∧ (i : Int) < sp
      · have i1 : (i : Int) < 64 := by omega
        have i2 : (i : Int) < sp := hlt.2
        have i3 : ¬ (i : Int) < 0 := by omega
        have HLT := Aside0.mk hlt
        have hTl := torn_len hi HP1.out HP0.out
        obtain ⟨f, hf⟩ : ∃ f, (pad l1)[i]? = some f := ⟨_, List.getElem?_eq_getElem (by rw [HP1.out]; exact hlt.1)⟩
        obtain ⟨g, hg⟩ : ∃ g, (torn i (pad l1) (pad l0))[i]? = some g := ⟨_, List.getElem?_eq_getElem (by rw [hTl]; exact hlt.1)⟩
        have hcf : wr.cell? ⟨gf, i, none⟩ = some (.int .u8 f) := (blk_cell HT.out.y i).trans (by simp [hf])
        have hcg : wr.cell? ⟨gw, i, none⟩ = some (.int .u8 g) := (blk_cell HT.out.x i).trans (by simp [hg])
        have hfg := blk_frozen HT.out.x i
        have hset := torn_set hlt.1 HP1.out HP0.out hf
        have HSET := Aside0.mk hset
        have HWX := Aside0.mk (blk_put HT.out.x i (.int .u8 f) rfl)
        clear hlt hf hg hTl hset hsp0
        go_wp2_with fail
        go_roundg (65 - (i + 1))
        case measure => have := hkq.out; have := HLT.out; omega
        case rel =>
          refine ⟨i + 1, by go_num, by have := HLT.out; omega, ⟨rfl⟩, ⟨by have := HLT.out; omega⟩, ⟨?_⟩⟩
          have n1 : gs ≠ gw := by have := HT4.out.2.1; omega
          have n2 : gf ≠ gw := by have := HT4.out.2.2; omega
          refine ⟨HT.out.b.trans ⟨rfl, rfl, rfl, by simp [World.setCell], fun k hk => Below.heap_setCell wr _ _ k (fun e => by have e : k = gw := e; have := HGW.out; omega)⟩, (Below.heap_setCell wr _ _ gs n1).trans HT.out.s, ?_, (Below.heap_setCell wr _ _ gf n2).trans HT.out.y⟩
          rw [← HSET.out]
          have := HWX.out
          simpa [U] using this
      · have HTX : TT w wr gs gw gf (fell (pad l0) l1 sp true) (fell (pad l0) l1 sp true) (pad l1) := by
          have e : i = min sp.toNat 64 := by have := HIS.out; omega
          have := HT.out
          rw [e] at this
          exact this
        have i3 : ¬ ((i : Int) < 64 ∧ (i : Int) < sp) := fun h => hlt ⟨by omega, h.2⟩
        clear hlt
        by_cases i1 : (i : Int) < sp
        · have i2 : ¬ (i : Int) < 64 := fun h => i3 ⟨h, i1⟩
          clear i3
          have hcs := Kd.C_string (P := Try.prog) (c := 64) Try.underlying22 Try.underlying5 Try.underlying9 (sec_C HTX.s HSL.out)
          have hcw := Kd.C_string (P := Try.prog) (c := 64) Try.underlying22 Try.underlying5 Try.underlying9 (sec_C HTX.x HSL.out)
          rw [HSL.out] at hcs hcw
          have HBX := Aside0.mk HTX.b
          clear HTX HT
          go_wp2_with fail
          go_ret
          exact ⟨rfl, HBX.out⟩
        · clear i3
          have hcs := Kd.C_string (P := Try.prog) (c := 64) Try.underlying22 Try.underlying5 Try.underlying9 (sec_C HTX.s HSL.out)
          have hcw := Kd.C_string (P := Try.prog) (c := 64) Try.underlying22 Try.underlying5 Try.underlying9 (sec_C HTX.x HSL.out)
          rw [HSL.out] at hcs hcw
          have HBX := Aside0.mk HTX.b
          clear HTX HT
          go_wp2_with fail
          go_ret
          exact ⟨rfl, HBX.out⟩
/-- A row of whole numbers that came in. -/
structure RowIn (k : IntKind) (w : World) (a : Option Addr) (len : Nat) (zs : List Int) : Prop where
  long : zs.length = len
  wf : ∀ n ∈ zs, (Lit.int k n).wf = true
  cell : ∀ i, i < len → ∃ x, a = some x ∧ w.cell? (x.add i) = some (.int k (zs.getD i 0))
theorem bytes_le {w : World} {a0 : Option Addr} {len0 cap0 : Nat} {z0 : List Int} (w0 : (a0 = none ∧ len0 = 0 ∧ cap0 = 0 ∧ z0 = []) ∨ ∃ x, a0 = some x ∧ len0 ≤ cap0 ∧ cap0 ≤ maxLen ∧ z0.length = cap0 ∧ (∀ i, i < z0.length → w.cell? (x.add i) = some (.int .u8 (z0.getD i 0))) ∧ ∀ n ∈ z0, (Lit.int .u8 n).wf = true) :
    ∃ l0 : List Int, l0.length = len0 ∧ Kd.C (Kd.int .u8) w a0 l0.length l0 ∧ (∀ n ∈ l0, (Lit.int .u8 n).wf = true) := by
  obtain ⟨l0, rfl, hr0, hm0, hw0', hc0⟩ := ReadsInt.ofRowC w0
  exact ⟨l0, rfl, Kd.C_of_reads (d := (0 : Int)) (h1 := fun _ => rfl) hr0, hw0'⟩
theorem torn_any (a0 a1 : Option Addr) (len0 cap0 len1 cap1 : Nat) (z0 z1 : List Int) (sp : Int) (keep : Bool) (w : World) (h2 : (Lit.int .u8 sp).wf = true)
    (w0 : (a0 = none ∧ len0 = 0 ∧ cap0 = 0 ∧ z0 = []) ∨ ∃ x, a0 = some x ∧ len0 ≤ cap0 ∧ cap0 ≤ maxLen ∧ z0.length = cap0 ∧ (∀ i, i < z0.length → w.cell? (x.add i) = some (.int .u8 (z0.getD i 0))) ∧ ∀ n ∈ z0, (Lit.int .u8 n).wf = true)
    (w1 : (a1 = none ∧ len1 = 0 ∧ cap1 = 0 ∧ z1 = []) ∨ ∃ x, a1 = some x ∧ len1 ≤ cap1 ∧ cap1 ≤ maxLen ∧ z1.length = cap1 ∧ (∀ i, i < z1.length → w.cell? (x.add i) = some (.int .u8 (z1.getD i 0))) ∧ ∀ n ∈ z1, (Lit.int .u8 n).wf = true) :
    Calls Try.prog 4 #[.slice a0 len0 cap0, .slice a1 len1 cap1, .int .u8 sp, .bool keep] w fun e w' => e = .returned (.bool true) ∧ Below w.heap.size w w' := by
  obtain ⟨l0, rfl, hr0, _⟩ := bytes_le w0
  obtain ⟨l1, rfl, hr1, _⟩ := bytes_le w1
  have b2 := bounds_u8 h2
  by_cases hl : 64 < l0.length ∨ 64 < l1.length
  · exact torn_long a0 a1 cap0 cap1 l0 l1 sp keep w hl
  · exact torn_short a0 a1 cap0 cap1 l0 l1 sp keep w (by omega) (by omega) (by omega) hr0 hr1
end Go.Proofs.Ytcobkideokljfaa
