/- PackNil: a nil box has nothing; what was handed in, and told, isn't the box's. -/
import Derived.Test.YtinmndkhipfccaaPurePackBytes
import Derived.Test.YtinmndkhipfccaaWKept
import Derived.WalkKit
import Derived.Outline
import Derived.Deep.QuietTactic
import Derived.BigQuiet
import Derived.Deep.RegionHeld3
import Derived.Deep.DeepCutAuto
import Derived.Laws.Rows
namespace Go.Proofs.Ytinmndkhipfccaa
open Go.RowKit Go.Proofs.Ytinmndkhipfccaa.PA Go.Proofs.YtinmndkhipfccaaW.PrintWords Go.Proofs.YtinmndkhipfccaaW.PrintLast Go.Proofs.YtinmndkhipfccaaW.PrintMore
set_option linter.unusedVariables false
set_option linter.unusedSimpArgs false
/-- A row of whole numbers that came in. -/
structure RowIn (k : IntKind) (w : World) (a : Option Addr) (len : Nat) (zs : List Int) : Prop where
  long : zs.length = len
  wf : ∀ n ∈ zs, (Lit.int k n).wf = true
  cell : ∀ i, i < len → ∃ x, a = some x ∧ w.cell? (x.add i) = some (.int k (zs.getD i 0))

theorem put_nil (A : Option Addr) (n c : Nat) (w : World) : Calls Try.prog 12 #[.pointer none, .slice A n c] w fun e w' => e = .returned (.pointer none) ∧ Below w.heap.size w w' := by
  go_enter Try.func12, Try.ntmps12
  go_wp2
  go_ret
  exact ⟨rfl, by repeat (first | exact Below.refl _ _ | apply below_alloc | apply pw_below_drewN | apply below_drew1)⟩
theorem flag_nil (w : World) : Calls Try.prog 25 #[.pointer none, .bool true] w fun e w' => e = .returned (.pointer none) ∧ Below w.heap.size w w' := by
  go_enter Try.func25, Try.ntmps25
  go_wp2_with fail
  go_at_call 12
  refine (put_nil _ _ _ _).mono ?_
  rintro e w1 ⟨rfl, hb⟩
  have HB := Aside0.mk ((below_alloc (Below.refl w.heap.size w) _).trans (hb.mono (by simp)))
  clear hb
  go_wp2
  go_ret
  exact ⟨rfl, HB.out⟩
theorem bytes_nil (A : Option Addr) (n c : Nat) (w : World) : Calls Try.prog 24 #[.pointer none, .slice A n c] w fun e w' => e = .returned (.pointer none) ∧ Below w.heap.size w w' := by
  go_enter Try.func24, Try.ntmps24
  go_wp2
  go_ret
  exact ⟨rfl, by repeat (first | exact Below.refl _ _ | apply below_alloc | apply pw_below_drewN | apply below_drew1)⟩
theorem done_nil (w : World) : Calls Try.prog 13 #[.pointer none] w fun e w' => e = .returned (.slice none 0 0) ∧ Below w.heap.size w w' := by
  go_enter Try.func13, Try.ntmps13
  go_wp2
  go_ret
  exact ⟨rfl, by repeat (first | exact Below.refl _ _ | apply below_alloc | apply pw_below_drewN | apply below_drew1)⟩
theorem get_nil (a b : Int) (w : World) : Calls Try.prog 17 #[.pointer none, .int .i64 a, .int .i64 b] w fun e w' => e = .returned (.int .i64 0) ∧ Below w.heap.size w w' := by
  go_enter Try.func17, Try.ntmps17
  go_wp2
  go_ret
  exact ⟨rfl, by repeat (first | exact Below.refl _ _ | apply below_alloc | apply pw_below_drewN | apply below_drew1)⟩
theorem getFlag_nil (w : World) : Calls Try.prog 22 #[.pointer none] w fun e w' => e = .returned (.bool false) ∧ Below w.heap.size w w' := by
  go_enter Try.func22, Try.ntmps22
  go_wp2_with fail
  go_at_call 17
  refine (get_nil _ _ _).mono ?_
  rintro e w1 ⟨rfl, hb⟩
  have HB := Aside0.mk hb
  clear hb
  go_wp2
  go_ret
  exact ⟨rfl, HB.out⟩
theorem getBytes_nil (a : Int) (w : World) : Calls Try.prog 23 #[.pointer none, .int .i64 a] w fun e w' => e = .returned (.slice none 0 0) ∧ Below w.heap.size w w' := by
  go_enter Try.func23, Try.ntmps23
  go_wp2_with fail
  go_at_call 17
  refine (get_nil _ _ _).mono ?_
  rintro e w1 ⟨rfl, hb⟩
  have HB := Aside0.mk hb
  clear hb
  go_wp2
  go_ret
  exact ⟨rfl, HB.out⟩
theorem left_nil (w : World) : Calls Try.prog 20 #[.pointer none] w fun e w' => e = .returned (.int .i64 0) ∧ Below w.heap.size w w' := by
  go_enter Try.func20, Try.ntmps20
  go_wp2
  go_ret
  exact ⟨rfl, by repeat (first | exact Below.refl _ _ | apply below_alloc | apply pw_below_drewN | apply below_drew1)⟩
theorem fault_nil (w : World) : Calls Try.prog 18 #[.pointer none] w fun e w' => e = .returned (.int .i64 2) ∧ Below w.heap.size w w' := by
  go_enter Try.func18, Try.ntmps18
  go_wp2
  go_ret
  exact ⟨rfl, by repeat (first | exact Below.refl _ _ | apply below_alloc | apply pw_below_drewN | apply below_drew1)⟩
theorem end_nil (w : World) : Calls Try.prog 19 #[.pointer none] w fun e w' => e = .returned (.int .i64 2) ∧ Below w.heap.size w w' := by
  go_enter Try.func19, Try.ntmps19
  go_wp2_with fail
  go_at_call 18
  refine (fault_nil _).mono ?_
  rintro e w1 ⟨rfl, hb⟩
  have HB := Aside0.mk hb
  clear hb
  go_wp2
  go_ret
  exact ⟨rfl, HB.out⟩
theorem awake_c (w : World) : Calls Try.prog 10 #[] w fun e w' => e = .returned (.bool true) ∧ Below w.heap.size w w' := by
  obtain ⟨k, hk⟩ := Pure.awake_ev
  exact paybooklaw05_awake.calls k true w (hk k (Nat.le_refl _))
theorem bytes_c (gx : Nat) (P : Nat → Prop) (u : Value) (A : Option Addr) (c : Nat) (l : List Int) (w0 w : World) (hl : l.length ≤ 1000) (hB : Below w0.heap.size w0 w) (hbx : w.heap[gx]? = some (.cells #[u, .int .i64 0] 51 (0, 0))) (hge : w0.heap.size ≤ gx)
    (ho : Kd.R (Kd.int .u8) 5 w w0.heap.size P u []) (hr : ∀ W_, Kept w W_ (fun k_ => (P k_) ∨ k_ = gx) → Kd.C (Kd.int .u8) W_ A l.length l) (hc : l.length ≤ c) :
    Calls Try.prog 24 #[.pointer (some ⟨gx, 0, none⟩), .slice A l.length c] w fun e w' => ∃ v, e = .returned (.pointer (some ⟨gx, 0, none⟩)) ∧ Kd.R (Kd.int .u8) 5 w' w0.heap.size (fun _ => True) v (Pure.packI (l.length : Int) ++ l) ∧ w'.heap[gx]? = some (.cells #[v, .int .i64 0] 51 (0, 0)) ∧ Below w0.heap.size w0 w' := by
  obtain ⟨k, hk⟩ := Pure.bputs_ev [] 0 (q := l) (by omega) (by simp)
  refine (pack_Box_Bytes.calls k gx P u [] 0 A c l _ _ w0 w hB hbx hge ho hr hc (hk k (Nat.le_refl _))).mono ?_
  rintro e w' ⟨v, he, h1, h2, h3, _⟩
  exact ⟨v, he, Kd.R_mono h1 (fun _ _ => trivial), h2, h3⟩
theorem done_c (gx : Nat) (u : Value) (l : List Int) (w0 w : World) (hl : l.length ≤ 2000) (hB : Below w0.heap.size w0 w) (hbx : w.heap[gx]? = some (.cells #[u, .int .i64 0] 51 (0, 0))) (hge : w0.heap.size ≤ gx) (ho : Kd.R (Kd.int .u8) 5 w w0.heap.size (fun _ => True) u l) :
    Calls Try.prog 13 #[.pointer (some ⟨gx, 0, none⟩)] w fun e w' => ∃ v u', e = .returned v ∧ Kd.R (Kd.int .u8) 5 w' w0.heap.size (fun _ => True) v l ∧ Kd.R (Kd.int .u8) 5 w' w0.heap.size (fun k_ => some k_ ≠ v.ownBlock) u' l ∧ w'.heap[gx]? = some (.cells #[u', .int .i64 0] 51 (0, 0)) ∧ Below w0.heap.size w0 w' := by
  refine (pack_Box_Done.calls gx _ u l 0 _ _ _ w0 w hB hbx hge ho (Pure.done_f l 0 (by omega))).mono ?_
  rintro e w' ⟨v, u', he, h1, h2, h3, h4, _⟩
  exact ⟨v, u', he, Kd.R_mono h1 (fun _ _ => trivial), Kd.R_mono h2 (fun _ hk => hk.2), h3, h4⟩
theorem row_last {w : World} {base : Nat} {ok : Nat → Prop} {v : Value} {r : List Int} {m : Nat} (h : Kd.R (Kd.int .u8) 5 w base ok v r) (hm : r.length = m + 1) :
    ∃ g c, v = .slice (some ⟨g, 0, none⟩) (m + 1) c ∧ base ≤ g ∧ (∃ cur, w.heap[g]? = some (.cells cur 5 (0, 0))) ∧ ∃ x, w.cell? ⟨g, m, none⟩ = some (.int .u8 x) ∧ w.frozen? ⟨g, m, none⟩ = false := by
  obtain ⟨h0, (⟨rfl, h1⟩ | ⟨g, cap, cur, rfl, h1, h2, h3, h4, h5, h6⟩)⟩ := Kd.own_of_R h
  · omega
  · rw [hm] at h
    refine ⟨g, cap, by rw [hm], h1, ⟨cur, h2⟩, ?_⟩
    have := Kd.R_celln (0 : Int) h (m : Int) (by omega) (by omega)
    exact ⟨_, this.1, this.2⟩
/-- The box x has the bytes r. -/
structure NS (w0 w : World) (gx : Nat) (r : List Int) : Prop where
  ex : ∃ v, Kd.R (Kd.int .u8) 5 w w0.heap.size (fun _ => True) v r ∧ w.heap[gx]? = some (.cells #[v, .int .i64 0] 51 (0, 0))
  b : Below w0.heap.size w0 w
theorem NS.below {w0 w w' : World} {gx : Nat} {r : List Int} (h : NS w0 w gx r) (hb : Below w.heap.size w w') : NS w0 w' gx r := by
  obtain ⟨⟨v, h1, h2⟩, h3⟩ := h
  exact ⟨⟨v, Kd.R_below h1 hb, blk_below h2 hb⟩, h3.trans (hb.mono h3.size)⟩
theorem done_ns {w0 w : World} {gx : Nat} {r : List Int} (h : NS w0 w gx r) (hl : r.length ≤ 2000) (hge : w0.heap.size ≤ gx) : Calls Try.prog 13 #[.pointer (some ⟨gx, 0, none⟩)] w fun e w' => ∃ v, e = .returned v ∧ Kd.R (Kd.int .u8) 5 w' w0.heap.size (fun _ => True) v r ∧ Below w0.heap.size w0 w' := by
  obtain ⟨⟨v, h1, h2⟩, h3⟩ := h
  refine (done_c gx v r w0 w hl h3 h2 hge h1).mono ?_
  rintro e w' ⟨v, u', he, h1, _, _, h4⟩
  exact ⟨v, he, h1, h4⟩

set_option maxHeartbeats 4000000 in
theorem nil_any (a0 : Option Addr) (len0 cap0 : Nat) (z0 : List Int) (n : Int) (w : World) (w0 : (a0 = none ∧ len0 = 0 ∧ cap0 = 0 ∧ z0 = []) ∨ ∃ x, a0 = some x ∧ len0 ≤ cap0 ∧ cap0 ≤ maxLen ∧ z0.length = cap0 ∧ (∀ i, i < z0.length → w.cell? (x.add i) = some (.int .u8 (z0.getD i 0))) ∧ ∀ n ∈ z0, (Lit.int .u8 n).wf = true) :
    Calls Try.prog 9 #[.slice a0 len0 cap0, .int .i64 n] w fun e w' => e = .returned (.bool true) ∧ Below w.heap.size w w' := by
  obtain ⟨l0, rfl, hr0, hm0, hw0, hc0⟩ := ReadsInt.ofRowC w0
  have HR := Aside0.mk (Kd.C_of_reads (d := (0 : Int)) (h1 := fun _ => rfl) hr0)
  have HC := Aside0.mk hc0
  have HB := Aside0.mk (Below.refl w.heap.size w)
  clear hr0 hc0 hw0 w0
  unfold maxLen at hm0
  by_cases hg : l0.length = 0 ∨ 50 < l0.length
  · have hgo : Calls Try.prog 9 #[.slice a0 l0.length cap0, .int .i64 n] w fun e w' => e = .returned (.bool true) ∧ Below w.heap.size w w' := by
      rcases hg with hg | hg
      · rw [hg]
        go_enter Try.func9, Try.ntmps9
        go_wp2_with fail
        go_at_call 10
        refine (awake_c _).mono ?_
        rintro e w1 ⟨rfl, hb⟩
        have HB1 := Aside0.mk hb
        clear hb
        go_wp2_with fail
        go_at_call 10
        refine (awake_c _).mono ?_
        rintro e w2 ⟨rfl, hb⟩
        have HB2 := Aside0.mk (HB1.out.trans (hb.mono HB1.out.size))
        clear hb
        go_wp2_with fail
        go_ret
        exact ⟨rfl, HB2.out⟩
      · have hg0 : ((l0.length : Int) == 0) = false := beq_eq_false_iff_ne.mpr (by omega)
        go_enter Try.func9, Try.ntmps9
        go_wp2_with fail
        go_at_call 10
        refine (awake_c _).mono ?_
        rintro e w1 ⟨rfl, hb⟩
        have HB1 := Aside0.mk hb
        clear hb
        go_wp2_with fail
        go_at_call 10
        refine (awake_c _).mono ?_
        rintro e w2 ⟨rfl, hb⟩
        have HB2 := Aside0.mk (HB1.out.trans (hb.mono HB1.out.size))
        clear hb
        go_wp2_with fail
        go_ret
        exact ⟨rfl, HB2.out⟩
    exact hgo
  have hg0 : ((l0.length : Int) == 0) = false := beq_eq_false_iff_ne.mpr (by omega)
  have hg5 : ¬ 50 < l0.length := by omega
  have HG := Aside0.mk hg
  clear hg
  go_enter Try.func9, Try.ntmps9
  go_wp2_with fail
  go_at_call 10
  refine (awake_c _).mono ?_
  rintro e w1 ⟨rfl, hb⟩
  have HB1 := Aside0.mk hb
  clear hb
  go_wp2_with (at_builtin; refine Kd.R_append_rows (Kd.int .u8) (w0 := w) w.heap.size rfl (.const (.slice none 0 0)) (.tmp 23) 24 5 (.int .u8 0) 1 rfl Try.underlying24 info5 rfl (by decide) (by omega) (.slice none 0 0) ([] : List Int) l0 _ _ _ (fun _ => True) (fun _ => False) rfl rfl ?aO ?aR (fun _ _ h => h) (fun _ h => h.elim) ?aF ?aB ?aS ?aL ?_; (case aR => exact Kd.C_below HR.out HB1.out); (case aB => exact HB1.out); (case aF => exact (fun _ _ => trivial)); (case aO => exact Kd.R_nil _ _ _ _ (fun _ => True)); (case aS => exact HB1.out.size); (case aL => have := HG.out; simp; omega); intro v6 w3 ho hb hg hat; have HO3 := Aside0.mk ho; have HB3 := Aside0.mk hb; clear ho hb hg hat)
  obtain ⟨A6, c6, e6⟩ := Kd.R_slice HO3.out
  subst e6
  go_at_call 11
  refine (pack_New.calls [] 0 _ rfl).mono ?_
  rintro e w4 ⟨v0, gx, rfl, ho, hbx, hge, hb⟩
  have HO4 := Aside0.mk (Kd.R_tight rfl ho)
  have HX4 := Aside0.mk hbx
  have HGE := Aside0.mk hge
  have HB4 := Aside0.mk hb
  have HN0 : Aside0 (∀ k, v0.ownBlock = some k → w3.heap.size ≤ k) := ⟨fun k hk => Kd.R_base ho k hk⟩
  clear ho hbx hge hb
  have hr4 : ∀ W_, Kept w4 W_ (fun k_ => (some k_ = v0.ownBlock) ∨ k_ = gx) → Kd.C (Kd.int .u8) W_ A6 ([] ++ l0).length ([] ++ l0) := Kd.C_kept_came (Kd.heap_int .u8) (Kd.R_reads' HO3.out).2.2 HB4.out (fun k hk => hk.elim (fun e => HN0.out k e.symm) (fun e => by rw [e]; exact HGE.out))
  have hc4 : ([] ++ l0).length ≤ c6 := by have := (Kd.R_reads' HO3.out).2.1; exact this
  have HR4 := Aside0.mk hr4
  have HC4 := Aside0.mk hc4
  clear hr4 hc4
  have HL5 : Aside0 (l0.length ≤ 1000) := ⟨by have := HG.out; omega⟩
  go_wp2_with fail
  go_at_call 24
  refine (bytes_c gx _ v0 A6 c6 ([] ++ l0) w3 w4 HL5.out HB4.out HX4.out HGE.out HO4.out HR4.out HC4.out).mono ?_
  rintro e w5 ⟨v1, rfl, ho, hbx, hb⟩
  obtain ⟨r, hr⟩ : ∃ r, r = Pure.packI ((([] : List Int) ++ l0).length : Int) ++ (([] : List Int) ++ l0) := ⟨_, rfl⟩
  have hr1 : 1 ≤ r.length ∧ r.length ≤ 2000 := by
    have h1 := Pure.packI_pos ((([] : List Int) ++ l0).length : Int)
    have h2 := Pure.packI_len (n := ((([] : List Int) ++ l0).length : Int)) (by unfold Pure.I64; have := HG.out; simp; omega)
    have := HG.out
    rw [hr, List.length_append]; simp at *; omega
  rw [← hr] at ho
  have HO5 := Aside0.mk ho
  have HX5 := Aside0.mk hbx
  have HB5 := Aside0.mk hb
  have HR1 := Aside0.mk hr1
  clear ho hbx hb hr hr1 HX4 HB4 HO4 HR4 HC4 HN0
  clear w4
  go_wp2_with fail
  go_at_call 13
  refine (done_c gx v1 r w3 w5 HR1.out.2 HB5.out HX5.out HGE.out HO5.out).mono ?_
  rintro e w6 ⟨vd, vb, rfl, ho1, ho2, hbx, hb⟩
  have HD6 := Aside0.mk ho1
  have HO6 := Aside0.mk ho2
  have HX6 := Aside0.mk hbx
  have HB6 := Aside0.mk hb
  clear ho1 ho2 hbx hb HO5 HX5 HB5
  clear w5
  have hcv := own_string (P := Try.prog) Try.underlying24 Try.underlying5 Try.underlying9 (Kd.own_of_R HD6.out)
  obtain ⟨m, hm⟩ : ∃ m, r.length = m + 1 := ⟨r.length - 1, by have := HR1.out; omega⟩
  obtain ⟨gd, cd, ed, hdb, hdt, hdc⟩ := row_last HD6.out hm
  subst ed
  have hm2 : m < 2000 := by have := HR1.out; omega
  obtain ⟨x, hx, hf⟩ := hdc
  have HM := Aside0.mk hm
  clear hm
  obtain ⟨W7, hW7⟩ : ∃ W7, W7 = (w6.setCell ⟨gd, m, none⟩ (.int .u8 ((x + 1) % 256))).alloc (.cells #[.int .i64 n] 2) := ⟨_, rfl⟩
  have hNS : NS w3 W7 gx r := by
    obtain ⟨cur, hcur⟩ := hdt
    have hne : gx ≠ gd := fun e => by
      have h1 := HX6.out
      rw [e, hcur] at h1
      injection h1 with h1; injection h1 with _ h2; exact absurd h2 (by decide)
    rw [hW7]
    refine ⟨⟨vb, Kd.R_alloc (Kd.R_mono (Kd.R_far (p := ⟨gd, m, none⟩) HO6.out (fun k hk => fun e => hk (by rw [e]; rfl)) _) (fun _ _ => trivial)) _, ?_⟩, below_alloc (below_set HB6.out hdb) _⟩
    exact (heap_alloc_old _ _ (by have := blk_lt HX6.out; simpa [World.setCell] using this)).trans (blk_far HX6.out hne _)
  have HN := Aside0.mk hNS
  clear hNS hdt hdb
  go_wp2_with fail
  rw [← hW7]
  obtain ⟨gs, hgs⟩ : ∃ gs, gs = w6.heap.size := ⟨_, rfl⟩
  rw [← hgs]
  clear hgs
  clear hW7 hx hf hcv HX6 HO6 HD6 HB6
  clear w6
  go_at_call 12
  refine (put_nil _ _ _ _).mono ?_
  rintro e w8 ⟨rfl, hb⟩
  have HN8 := Aside0.mk (HN.out.below hb)
  clear hb HN
  clear W7
  go_wp2_with fail
  go_at_call 25
  refine (flag_nil _).mono ?_
  rintro e w9 ⟨rfl, hb⟩
  have HN9 := Aside0.mk (HN8.out.below hb)
  clear hb HN8
  clear w8
  go_wp2_with fail
  go_at_call 24
  refine (bytes_nil _ _ _ _).mono ?_
  rintro e w10 ⟨rfl, hb⟩
  have HN10 := Aside0.mk (HN9.out.below hb)
  clear hb HN9
  clear w9
  go_wp2_with fail
  go_at_call 13
  refine (done_nil _).mono ?_
  rintro e w11 ⟨rfl, hb⟩
  have HN11 := Aside0.mk (HN10.out.below hb)
  clear hb HN10
  clear w10
  go_wp2_with fail
  go_at_call 17
  refine (get_nil _ _ _).mono ?_
  rintro e w12 ⟨rfl, hb⟩
  have HN12 := Aside0.mk (HN11.out.below hb)
  clear hb HN11
  clear w11
  go_wp2_with fail
  go_at_call 22
  refine (getFlag_nil _).mono ?_
  rintro e w13 ⟨rfl, hb⟩
  have HN13 := Aside0.mk (HN12.out.below hb)
  clear hb HN12
  clear w12
  go_wp2_with fail
  go_at_call 23
  refine (getBytes_nil _ _).mono ?_
  rintro e w14 ⟨rfl, hb⟩
  have HN14 := Aside0.mk (HN13.out.below hb)
  clear hb HN13
  clear w13
  go_wp2_with fail
  go_at_call 20
  refine (left_nil _).mono ?_
  rintro e w15 ⟨rfl, hb⟩
  have HN15 := Aside0.mk (HN14.out.below hb)
  clear hb HN14
  clear w14
  go_wp2_with fail
  go_at_call 18
  refine (fault_nil _).mono ?_
  rintro e w16 ⟨rfl, hb⟩
  have HN16 := Aside0.mk (HN15.out.below hb)
  clear hb HN15
  clear w15
  go_wp2_with fail
  go_at_call 19
  refine (end_nil _).mono ?_
  rintro e w17 ⟨rfl, hb⟩
  have HN17 := Aside0.mk (HN16.out.below hb)
  clear hb HN16
  clear w16
  go_wp2_with fail
  go_at_call 13
  refine (done_ns HN17.out HR1.out.2 HGE.out).mono ?_
  rintro e w18 ⟨v9, rfl, ho, hb⟩
  have HB18 := Aside0.mk (HB3.out.trans (hb.mono HB3.out.size))
  have hcv := own_string (P := Try.prog) Try.underlying24 Try.underlying5 Try.underlying9 (Kd.own_of_R ho)
  clear ho hb
  go_wp2_with fail
  go_ret
  exact ⟨rfl, HB18.out⟩
end Go.Proofs.Ytinmndkhipfccaa
