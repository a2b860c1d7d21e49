/- PlatePlays: any acts: sectors, writes that are safe and that aren't, torn ones, and falls: as by two lists. -/
import Derived.Test.YtcobkideokljfaaPlateU
import Derived.Deep.Slices
import Derived.Deep.Fields
import Derived.ChangeSame
import Derived.OpenShut
namespace Go.Proofs.Ytcobkideokljfaa
open Go.RowKit Go.Proofs.YtcobkideokljfaaW.PrintWords Go.Proofs.YtcobkideokljfaaW.PrintLast Go.Proofs.YtcobkideokljfaaW.PrintMore Go.Proofs.Ytcobkideokljfaa.PA
set_option linter.unusedVariables false
set_option linter.unusedSimpArgs false
/-- An act of a row of acts that came in. -/
structure ActAt (w : World) (x : Addr) (i : Nat) (k y n : Int) (B : Option Addr) (bs : List Int) (cb : Nat) : Prop where
  c0 : w.cell? (x.add (i * 4)) = some (.int .u8 k)
  c1 : w.cell? ⟨(x.add (i * 4)).block, (x.add (i * 4)).off + 1, none⟩ = some (.int .i64 y)
  c2 : w.cell? ⟨(x.add (i * 4)).block, (x.add (i * 4)).off + 2, none⟩ = some (.int .i64 n)
  c3 : w.cell? ⟨(x.add (i * 4)).block, (x.add (i * 4)).off + 3, none⟩ = some (.slice B bs.length cb)
  k8 : 0 ≤ k ∧ k < 256
  r : Kd.C (Kd.int .u8) w B bs.length bs
def ActsIn (w : World) (A : Option Addr) (len : Nat) : Prop := ∀ i, i < len → ∃ x k y n B bs cb, A = some x ∧ ActAt w x i k y n B bs cb
theorem ActAt.below {w w' : World} {x : Addr} {i : Nat} {k y n : Int} {B : Option Addr} {bs : List Int} {cb : Nat} (h : ActAt w x i k y n B bs cb) (hb : Below w.heap.size w w') : ActAt w' x i k y n B bs cb := by
  have hl : ∀ {a : Addr} {v : Value}, w.cell? a = some v → w'.cell? a = some v := fun h => (hb.cell (World.block_lt_of_cell? w _ h)).trans h
  exact ⟨hl h.c0, hl h.c1, hl h.c2, hl h.c3, h.k8, Kd.C_below h.r hb⟩
/-- Both plates, while acts are done; block g has cs. -/
structure Both (w0 w : World) (g c : Nat) (sv wv : Value) (p : St) (P : Nat → Prop) (x : Value) (sp : Int) (m : Nat) (cs : Array Value) : Prop where
  pl : Pl w0 w c sv wv p
  at_g : w.heap[g]? = some (.cells cs 33 (0, 0))
  r : RefIs w P x p sp
  ap : ∀ k, P k → ¬ Own c sv wv k ∧ k ≠ g
  og : ¬ Own c sv wv g
  gw : w0.heap.size ≤ g
  l1 : -1 ≤ p.left
  l2 : p.left ≤ 1000000
  sp_ : p.spare = mx sp 0
  wm : p.wet.length ≤ m
theorem Both.put {w0 w V : World} {g c : Nat} {sv wv : Value} {p : St} {P : Nat → Prop} {x : Value} {sp : Int} {m : Nat} {cs cs' : Array Value} (h : Both w0 w g c sv wv p P x sp m cs) (hq : V.heap[g]? = some (.cells cs' 33 (0, 0))) (f : Fr w V (fun i => i = g)) : Both w0 V g c sv wv p P x sp m cs' :=
  ⟨⟨h.pl.is.keep f (fun k hk e => h.og (by have e : k = g := e; rw [← e]; exact hk)), h.pl.below.trans (f.below h.pl.below.size (fun i e => by have e : i = g := e; rw [e]; exact h.gw)), h.pl.own⟩, hq, h.r.step (fun k hk hlt => f.block k hlt (h.ap k hk).2), h.ap, h.og, h.gw, h.l1, h.l2, h.sp_, h.wm⟩
theorem Both.by {w0 w V : World} {g c : Nat} {sv wv : Value} {p : St} {P : Nat → Prop} {x : Value} {sp : Int} {m : Nat} {cs : Array Value} (h : Both w0 w g c sv wv p P x sp m cs) (hb : Below w.heap.size w V) : Both w0 V g c sv wv p P x sp m cs :=
  ⟨h.pl.by hb, blk_below h.at_g hb, h.r.below hb, h.ap, h.og, h.gw, h.l1, h.l2, h.sp_, h.wm⟩
theorem Both.act {w0 w : World} {g c : Nat} {sv wv : Value} {p : St} {P : Nat → Prop} {x : Value} {sp : Int} {m : Nat} {cs : Array Value} (h : Both w0 w g c sv wv p P x sp m cs) (hm : m < 1000) {x0 : Addr} {i : Nat} {k y n : Int} {B : Option Addr} {bs : List Int} {cb : Nat} (ha : ActAt w0 x0 i k y n B bs cb) :
    Calls Try.prog 13 #[.pointer (some ⟨c, 0, none⟩), x, .agg #[.int .u8 k, .int .i64 y, .int .i64 n, .slice B bs.length cb]] w fun e w' => ∃ x' wv' P' sp', e = .returned (.tuple #[x', .bool true]) ∧ Both w0 w' g c sv wv' (doSt p (k.tmod 8) y n bs) P' x' sp' (m + 1) cs := by
  have hlg := blk_lt h.at_g
  obtain ⟨sp1, hsp1, i1, i2, i3, i4, i5⟩ := doSt_inv (k := k.tmod 8) (y := y) (n := n) (bs := bs) h.l1 h.l2 h.sp_
  refine (do_c h.pl.is h.r.bound (fun k hk => (h.ap k hk.1).1) h.l1 h.l2 (Nat.lt_of_le_of_lt h.wm hm) h.sp_ k y n ha.k8 B cb bs (fun W' hf => Kd.C_below ha.r (h.pl.below.trans (hf.below h.pl.below.size (fun i hi => h.pl.own i hi))))).mono ?_
  rintro e w' ⟨x', wv', R, rfl, z1, z2, z3, z4, z5⟩
  have hog : ¬ Own c sv wv' g := fun hk => (z5 g hk).elim h.og (by omega)
  rw [← hsp1] at z2
  exact ⟨x', wv', R, sp1, rfl, h.pl.step z1 z4 z5, z4.at h.at_g h.og, z2, fun k hk => ⟨(z3 k hk).2, (z3 k hk).1.elim (fun h2 => (h.ap k h2.1).2) (by omega)⟩, hog, h.gw, i2, i3, i1, by have := h.wm; omega⟩
theorem row_store {P : Program} {o : Oper} {ops : Array Oper} {a : Act} {W : World} {Kc : Act → World → Prop} {Q : Exit → Act → World → Prop} (hw : Region.wanted o (yielded ops a.tmps) = true) (ty : TypeId) (x y : Operand) (ho : o.op = .store ty x y) (g : Nat) (cells : Array Value) (hx : a.eval x = .pointer (some ⟨g, 0, none⟩)) (hy : a.eval y = .agg cells) (t : TypeId) (old : Array Value) (hb : W.heap[g]? = some (.cells old t (0, 0))) (hs : old.size = cells.size) (hi : (P.info? ty).map (·.size) = some cells.size) (h1 : cells.all (·.oneCell') = true)
    (h : ∀ V : World, V.heap[g]? = some (.cells cells t (0, 0)) → Fr W V (fun i => i = g) → Kc (a.put o.dst undef) V) : if Region.wanted o (yielded ops a.tmps) = true then Oper.wp P o a W Kc Q else Kc (a.put o.dst undef) W := by
  refine store_step hw (store_run old ho hx hy hb (Nat.le_of_eq hs.symm) hi h1) (h _ ?_ (fr_setCells _ _ _))
  obtain ⟨es, e1, e2⟩ := setCells_put cells.toList 0 W old hb (by rw [Array.length_toList]; omega)
  rw [e1]
  congr 2
  apply Array.toList_inj.1
  rw [e2, List.take_zero, List.drop_eq_nil_of_le (by rw [Array.length_toList, Array.length_toList]; omega)]
  simp
theorem u8_rem6 {n : Int} (h : 0 ≤ n ∧ n < 256) : ∃ m : Nat, n.tmod 6 = (m : Int) ∧ m < 6 := ⟨(n.tmod 6).toNat, by have := Int.tmod_lt_of_pos n (show (0 : Int) < 6 by omega); have := Int.tmod_nonneg 6 h.1; omega, by have := Int.tmod_lt_of_pos n (show (0 : Int) < 6 by omega); have := Int.tmod_nonneg 6 h.1; omega⟩
def pp11.T11 : Bool × List (List Nat × List Nat) := (true, [([], []), ([], []), ([], []), ([], []), ([2, 3], [2, 3]), ([4], [4]), ([0, 1, 5], [0, 1, 5]), ([6], [6]), ([7], [7]), ([7], [7]), ([8, 6, 0, 1, 2, 3, 4, 5, 6, 7, 8], [8]), ([9, 10, 0, 1, 2, 3, 4, 5, 6, 7, 8, 9, 10], [9])])
def pp11.B11 : List Nat := [0, 0, 0, 0, 12, 28, 63, 127, 255, 255, 511, 2047]
theorem pp11.tab11 : rtab .any (opsOf Try.f6 11) = pp11.T11 := by kernel_rfl
theorem pp11.bits11 : waitsOk pp11.T11.2 pp11.B11 = true := by kernel_rfl
set_option maxHeartbeats 8000000 in
theorem plays_short (n : Int) (A : Option Addr) (len cap : Nat) (w : World) (hn : 0 ≤ n ∧ n < 256) (hlen : len ≤ 50) (hA : ActsIn w A len) :
    Calls Try.prog 6 #[.int .u8 n, .slice A len cap] w fun e w' => e = .returned (.bool true) ∧ Below w.heap.size w w' := by
  obtain ⟨m, hm, hm6⟩ := u8_rem6 hn
  have HA := Aside0.mk hA
  have HM := Aside0.mk hm6
  have HLEN := Aside0.mk hlen
  have h0 : ¬ (50 : Int) < (len : Int) := by omega
  clear hA
  go_enter Try.func6, Try.ntmps6
  go_wp2_with fail
  go_at_call 8
  refine (awake_c _).mono ?_
  rintro e w0 ⟨rfl, hb0⟩
  have HB0 := Aside0.mk hb0
  clear hb0
  go_wp2_with fail
  go_at_call 9
  refine (new_c m m (by unfold mx; split <;> omega) (by omega) _).mono ?_
  rintro e w1 ⟨c, rfl, hb, sv, wv, h, ho⟩
  have H1 : Aside0 (Pl w w1 c sv wv (St.new m)) := ⟨⟨h, HB0.out.trans (hb.mono HB0.out.size), fun k hk => Nat.le_trans HB0.out.size (ho k hk)⟩⟩
  clear h hb ho
  go_wp2_with fail
  go_at_call 12
  refine (rnew_c m (by omega) _).mono ?_
  rintro e w2 ⟨x, rfl, hx, hb⟩
  have H2 := Aside0.mk (H1.out.by hb)
  have HX := Aside0.mk hx
  obtain ⟨B0, d0, B1, d1, rfl, _, _⟩ := hx
  obtain ⟨p0, hp0⟩ : ∃ q, q = St.new m := ⟨_, rfl⟩
  have HP0 : Aside0 (p0.left = -1 ∧ p0.spare = 0 ∧ p0.wet = []) := ⟨by rw [hp0]; exact ⟨rfl, rfl, rfl⟩⟩
  rw [← hp0] at H1 H2 HX ⊢
  clear hb hp0
  go_wp2_with (
    refine wp_store_new rfl 33 (.tmp 6) (.tmp 24) rfl #[.slice B0 p0.safe.length d0, .slice B1 p0.wet.length d1, .int .i64 p0.left, .int .i64 0, .bool p0.off, .int .i64 p0.acts] (by rfl) (by rfl) (by kernel_rfl) (by rfl) (by first | kernel_rfl | (simp [Value.oneCell']; done)) ?_
    intro V hv hV
    obtain ⟨g, hg⟩ : ∃ g, g = w2.heap.size := ⟨_, rfl⟩
    have H3 : Aside0 (Both w V g c sv wv p0 (fun k => w1.heap.size ≤ k ∧ k < w2.heap.size) (.agg #[.slice B0 p0.safe.length d0, .slice B1 p0.wet.length d1, .int .i64 p0.left, .int .i64 0, .bool p0.off, .int .i64 p0.acts]) 0 0 #[.slice B0 p0.safe.length d0, .slice B1 p0.wet.length d1, .int .i64 p0.left, .int .i64 0, .bool p0.off, .int .i64 p0.acts]) := ⟨by
      have hb3 : Below w2.heap.size w2 V := by rw [hV]; exact below_alloc (Below.refl _ _) _
      have hl2 := H2.out.below.size
      obtain ⟨z1, z2, z3⟩ := HP0.out
      refine ⟨H2.out.by hb3, by rw [hg]; exact hv, HX.out.bound.below hb3, fun k hk => ⟨fun h => by have := H1.out.is.lt h; have := hk.1; omega, by have := hk.2; omega⟩, fun h => by have := H2.out.is.lt h; omega, by omega, by omega, by omega, by rw [z2]; rfl, by rw [z3]; exact Nat.le_refl _⟩⟩
    rw [← hg]
    clear hv hV hg)
  clear HX H2 H1 HB0
  go_loopg [7] len (fun kq v7 wr => ∃ i : Nat, v7 = .int .i64 i ∧ i ≤ len ∧ Aside0 (kq = len - i) ∧ Aside0 (∃ wv p P sp cs, Both w wr g c sv wv p P (.agg cs) sp i cs))
  case atStart => exact ⟨0, rfl, by omega, ⟨rfl⟩, ⟨_, _, _, _, _, H3.out⟩⟩
  case round =>
    obtain ⟨i, rfl, hi, hkq, HT⟩ := hrel
    obtain ⟨⟨wv, p, P, sp, cs, hT⟩⟩ := HT
    have HT := Aside0.mk hT
    obtain ⟨A0, c0, A1, c1, hex, _, _⟩ := hT.r
    injection hex with hex
    subst hex
    clear hT
    by_cases hlt : i < len
    · obtain ⟨x, k, y, n1, B, bs, cb, rfl, ha0⟩ := HA.out i hlt
      have HAC0 := Aside0.mk ha0
      obtain ⟨a0, a1, a2, a3, _, _⟩ := ha0.below HT.out.pl.below
      have HLT := Aside0.mk hlt
      have i1 : (i : Int) < len := by omega
      clear hlt ha0
      by_cases hp : (80 : Int) < (bs.length : Int)
      · go_wp2_with fail
        go_ret
        exact ⟨rfl, HT.out.pl.below⟩
      · obtain ⟨k0, k1, k2, k3, k4, k5, kf⟩ := cells6 HT.out.at_g
        have hDO := Both.act (HT.out.by (below_drew (Below.refl _ _))) (by have := HLEN.out; omega) HAC0.out
        obtain ⟨p9, hp9⟩ : ∃ q, q = doSt p (k.tmod 8) y n1 bs := ⟨_, rfl⟩
        rw [← hp9] at hDO
        have HDO := Aside0.mk hDO
        clear hDO hp9
        go_upto_region 11 with fail
        refine start_ (n := 12) (S := fun w' => w'.cell? ⟨g, 0, none⟩ = some (.slice A0 p.safe.length c0) ∧ w'.cell? ⟨g, 1, none⟩ = some (.slice A1 p.wet.length c1) ∧ w'.cell? ⟨g, 2, none⟩ = some (.int .i64 p.left) ∧ w'.cell? ⟨g, 3, none⟩ = some (.int .i64 sp) ∧ w'.cell? ⟨g, 4, none⟩ = some (.bool p.off) ∧ w'.cell? ⟨g, 5, none⟩ = some (.int .i64 p.acts) ∧ w'.cell? (x.add (i * 4)) = some (.int .u8 k) ∧ w'.cell? ⟨(x.add (i * 4)).block, (x.add (i * 4)).off + 1, none⟩ = some (.int .i64 y) ∧ w'.cell? ⟨(x.add (i * 4)).block, (x.add (i * 4)).off + 2, none⟩ = some (.int .i64 n1) ∧ w'.cell? ⟨(x.add (i * 4)).block, (x.add (i * 4)).off + 3, none⟩ = some (.slice B bs.length cb)) (ds := [10]) #[false, false, false, false, false, false, false, false, false, false, false, false] (by kernel_rfl) rfl rfl ⟨k0, k1, k2, k3, k4, k5, a0, a1, a2, a3⟩ (fun hHeld => ?_)
        refine with_tabW pp11.tab11 pp11.bits11 (fun HT_ HW_ => ?_)
        refine pure_ (i := 0) (N := some 39) (v := ?_) (a' := ?_) #[true, false, false, false, false, false, false, false, false, false, false, false] rfl rfl (any_of HT_.out (by kernel_rfl)) (fun _ _ _ h => h) (Or.inl ⟨by rfl, ?_⟩) ?_ ?_
        rotate_left
        · intro w'
          go_simp
          with_reducible rfl
        rotate_left
        · simp only [Act.put, List.setIfInBounds_toArray, List.set_cons_zero, List.set_cons_succ, i64_w, i32_w]
          rfl
        refine pure_ (i := 2) (N := some 41) (v := ?_) (a' := ?_) #[true, false, true, false, false, false, false, false, false, false, false, false] rfl rfl (any_of HT_.out (by kernel_rfl)) (fun _ _ _ h => h) (Or.inl ⟨by rfl, ?_⟩) ?_ ?_
        rotate_left
        · intro w'
          go_simp
          with_reducible rfl
        rotate_left
        · simp only [Act.put, List.setIfInBounds_toArray, List.set_cons_zero, List.set_cons_succ, i64_w, i32_w]
          rfl
        refine pure_ (i := 3) (N := some 42) (v := ?_) (a' := ?_) #[true, false, true, true, false, false, false, false, false, false, false, false] rfl rfl (any_of HT_.out (by kernel_rfl)) (fun _ _ _ h => h) (Or.inl ⟨by rfl, ?_⟩) ?_ ?_
        rotate_left
        · intro w'
          go_simp
          with_reducible rfl
        rotate_left
        · simp only [Act.put, List.setIfInBounds_toArray, List.set_cons_zero, List.set_cons_succ, i64_w, i32_w]
          rfl
        refine pure_ (i := 4) (N := some 43) (v := ?_) (a' := ?_) #[true, false, true, true, true, false, false, false, false, false, false, false] rfl rfl (any_of HT_.out (by kernel_rfl)) (fun _ _ _ h => h) (Or.inl ⟨by rfl, ?_⟩) ?_ ?_
        rotate_left
        · intro w'
          go_simp
          with_reducible rfl
        rotate_left
        · simp only [Act.put, List.setIfInBounds_toArray, List.set_cons_zero, List.set_cons_succ, i64_w, i32_w]
          rfl
        refine take_ (i := 1) (N := some 40) (v := ?_) (a' := ?_) #[true, true, true, true, true, false, false, false, false, false, false, false] rfl rfl (take_ofW HT_.out HW_.out (by kernel_rfl)) (fun _ _ _ h => h) (Or.inl ⟨by rfl, ?_⟩) hHeld ?_ ?_
        rotate_left
        · rintro w' ⟨s0, s1, s2, s3, s4, s5, s6, s7, s8, s9⟩
          go_simp
          with_reducible rfl
        rotate_left
        · simp only [Act.put, List.setIfInBounds_toArray, List.set_cons_zero, List.set_cons_succ, i64_w, i32_w]
          rfl
        refine take_ (i := 5) (N := some 44) (v := ?_) (a' := ?_) #[true, true, true, true, true, true, false, false, false, false, false, false] rfl rfl (take_ofW HT_.out HW_.out (by kernel_rfl)) (fun _ _ _ h => h) (Or.inl ⟨by rfl, ?_⟩) hHeld ?_ ?_
        rotate_left
        · rintro w' ⟨s0, s1, s2, s3, s4, s5, s6, s7, s8, s9⟩
          go_simp
          with_reducible rfl
        rotate_left
        · simp only [Act.put, List.setIfInBounds_toArray, List.set_cons_zero, List.set_cons_succ, i64_w, i32_w]
          rfl
        refine one_ (i := 6) (N := some 45) #[true, true, true, true, true, true, true, false, false, false, false, false] rfl rfl (one_of HT_.out (by kernel_rfl)) (by decide) (fun K hK => ?_)
        refine goes_ Try.func13 (by kernel_rfl) rfl #[.pointer (some ⟨c, 0, none⟩), .agg #[.slice A0 p.safe.length c0, .slice A1 p.wet.length c1, .int .i64 p.left, .int .i64 sp, .bool p.off, .int .i64 p.acts], .agg #[.int .u8 k, .int .i64 y, .int .i64 n1, .slice B bs.length cb]] (by rfl) rfl rfl (by simp only [List.map_toArray, List.map_cons, List.map_nil]; rfl) ?_
        with_reducible refine HDO.out.mono ?_
        rintro r w9 ⟨x9, wv9, P9, sp9, rfl, h9⟩
        refine ⟨_, rfl, ?_⟩
        have H9 := Aside0.mk h9
        obtain ⟨C0, f0, C1, f1, rfl, _, _⟩ := h9.r
        have q9 := cells6 h9.at_g
        have k0 := q9.1
        have k1 := q9.2.1
        have k2 := q9.2.2.1
        have k3 := q9.2.2.2.1
        have k4 := q9.2.2.2.2.1
        have k5 := q9.2.2.2.2.2.1
        obtain ⟨b0, b1, b2, b3, _, _⟩ := HAC0.out.below H9.out.pl.below
        clear q9 h9
        refine hK.out _ _ ⟨k0, k1, k2, k3, k4, k5, b0, b1, b2, b3⟩ (fun hHeld => ?_)
        clear hK K
        refine norm_ (a' := ?_) ?_ ?_
        rotate_left
        · show Act.put _ (some 45) _ = _
          simp only [Act.put, List.setIfInBounds_toArray, List.set_cons_zero, List.set_cons_succ, i64_w, i32_w]
          rfl
        refine pure_ (i := 7) (N := some 38) (v := ?_) (a' := ?_) #[true, true, true, true, true, true, true, true, false, false, false, false] rfl rfl (any_of HT_.out (by kernel_rfl)) (fun _ _ _ h => h) (Or.inl ⟨by rfl, ?_⟩) ?_ ?_
        rotate_left
        · intro w'
          go_simp
          with_reducible rfl
        rotate_left
        · simp only [Act.put, List.setIfInBounds_toArray, List.set_cons_zero, List.set_cons_succ, i64_w, i32_w]
          rfl
        refine pure_ (i := 8) (N := some 46) (v := ?_) (a' := ?_) #[true, true, true, true, true, true, true, true, true, false, false, false] rfl rfl (any_of HT_.out (by kernel_rfl)) (fun _ _ _ h => h) (Or.inl ⟨by rfl, ?_⟩) ?_ ?_
        rotate_left
        · intro w'
          go_simp
          with_reducible rfl
        rotate_left
        · simp only [Act.put, List.setIfInBounds_toArray, List.set_cons_zero, List.set_cons_succ, i64_w, i32_w]
          rfl
        refine pure_ (i := 9) (N := some 47) (v := ?_) (a' := ?_) #[true, true, true, true, true, true, true, true, true, true, false, false] rfl rfl (any_of HT_.out (by kernel_rfl)) (fun _ _ _ h => h) (Or.inl ⟨by rfl, ?_⟩) ?_ ?_
        rotate_left
        · intro w'
          go_simp
          with_reducible rfl
        rotate_left
        · simp only [Act.put, List.setIfInBounds_toArray, List.set_cons_zero, List.set_cons_succ, i64_w, i32_w]
          rfl
        refine last_ (i := 10) (N := none) #[true, true, true, true, true, true, true, true, true, true, true, false] rfl rfl (one_of HT_.out (by kernel_rfl)) (by decide) (fun K hK => ?_)
        refine row_store (by rfl) 33 (.tmp 6) (.tmp 46) rfl g #[.slice C0 p9.safe.length f0, .slice C1 p9.wet.length f1, .int .i64 p9.left, .int .i64 sp9, .bool p9.off, .int .i64 p9.acts] (by rfl) (by rfl) 33 _ H9.out.at_g (by rfl) (by kernel_rfl) (by first | kernel_rfl | (simp [Value.oneCell']; done)) ?_
        intro V10 hv10 hf10
        have H10 := Aside0.mk (H9.out.put hv10 hf10)
        clear hv10 hf10
        refine hK.out _ _ ?_
        clear hK K
        refine pure_ (i := 11) (N := some 8) (v := ?_) (a' := ?_) #[true, true, true, true, true, true, true, true, true, true, true, true] rfl rfl (any_of HT_.out (by kernel_rfl)) (fun _ _ _ h => h) (Or.inl ⟨by rfl, ?_⟩) ?_ ?_
        rotate_left
        · intro w'
          go_simp
          with_reducible rfl
        rotate_left
        · simp only [Act.put, List.setIfInBounds_toArray, List.set_cons_zero, List.set_cons_succ, i64_w, i32_w]
          rfl
        refine done_ (done_of HT_.out (by kernel_rfl)) ?_
        obtain ⟨k0, k1, k2, k3, k4, k5, kf⟩ := cells6 H10.out.at_g
        go_wp2_with fail
        go_at_call 19
        refine (law_same H10.out.pl.is H10.out.r).mono ?_
        rintro e w11 ⟨rfl, hb⟩
        have H11 := Aside0.mk (H10.out.by hb)
        clear hb k0 k1 k2 k3 k4 k5 kf
        go_wp2_with fail
        go_roundg (len - (i + 1))
        case measure => have := hkq.out; have := HLT.out; omega
        case rel => exact ⟨i + 1, by go_num, by have := HLT.out; omega, ⟨rfl⟩, ⟨_, _, _, _, _, H11.out⟩⟩
    · have i1 : ¬ (i : Int) < len := by omega
      clear hlt
      go_wp2_with fail
      go_ret
      exact ⟨rfl, HT.out.pl.below⟩
theorem plays_long (n : Int) (A : Option Addr) (len cap : Nat) (w : World) (hlen : 50 < len) :
    Calls Try.prog 6 #[.int .u8 n, .slice A len cap] w fun e w' => e = .returned (.bool true) ∧ Below w.heap.size w w' := by
  have h0 : (50 : Int) < (len : Int) := by omega
  go_enter Try.func6, Try.ntmps6
  go_wp2_with fail
  go_at_call 8
  refine (awake_c _).mono ?_
  rintro e w1 ⟨rfl, hb1⟩
  go_wp2_with fail
  go_at_call 8
  refine (awake_c _).mono ?_
  rintro e w2 ⟨rfl, hb2⟩
  go_wp2_with fail
  go_ret
  exact ⟨rfl, hb1.trans (hb2.mono hb1.size)⟩
section
open Go.ChangeShapes Go.WideShapes Go.Deep
variable {H : Type} {enc : TypeId × Value → H} {P : Program} {w : World} {base : Nat} {spare : Nat → Bool} {held : Bool}
/-- Of each element each field's cell, and how it reads. -/
theorem open_fields {t e : TypeId} {fs : Array Field} {fuel : Nat} {cs : List Value} {x : DataW H × List MemPlace} (ht : P.underlying t = some (.slice e)) (he : P.underlying e = some (.struct fs))
    (hone : oneCellFields P fs = true) (hC : P.cellsOf e = fs.size) (h : DataW.trod enc P w base spare held fuel t cs = some x) :
    cs = [.slice none 0 0] ∨ ∃ (a : Addr) (len cap : Nat), cs = [.slice (some a) len cap] ∧ len ≤ cap ∧ cap ≤ maxLen ∧ ∀ i, i < len → ∀ (j : Nat) (f : Field), fs[j]? = some f →
      ∃ (v : Value) (y : DataW H × List MemPlace) (n : Nat), w.cell? (a.add (i * fs.size + j)) = some v ∧ DataW.trod enc P w base spare held n f.type [v] = some y := by
  rcases open_slice ht h with ⟨h0, _⟩ | ⟨a, len, cap, m, n, D, Pl, hcs, _, hl, hm, hmm, _, hi⟩
  · exact .inl h0
  · refine .inr ⟨a, len, cap, hcs, hl, hm, fun i hil j f hj => ?_⟩
    obtain ⟨ds, hc, hd⟩ := hi i (by rw [hmm]; split <;> omega)
    rw [hC] at hc
    obtain ⟨ys, n', _, _, _, hyl, hf⟩ := DataW.trod_struct he hd
    obtain ⟨_, hdl, hat⟩ := World.cells?_some hc
    obtain ⟨ho, hk⟩ := hone_of hone j f hj
    have hjl : j < fs.size := (Array.getElem?_eq_some_iff.1 hj).1
    have h1 := hf j f hj
    rw [ho, hk, List.drop_eq_getElem_cons (by omega), List.getElem?_eq_getElem (by omega)] at h1
    refine ⟨_, _, n', ?_, h1⟩
    have h2 := hat j hjl
    rw [List.getElem?_eq_getElem (by omega)] at h2
    rw [← h2, Go.Deep.add_add]
/-- A row of acts that came in, opened. -/
theorem acts_in {H : Type} {enc : TypeId × Value → H} {W : World} {a : Option Addr} {len cap : Nat} {d : DataW H} {p : List MemPlace} (h : DataW.Trod enc Try.prog W 0 (fun _ => true) true 23 (.slice a len cap) d p) : ∃ _u : Unit, ActsIn W a len := by
  obtain ⟨fuel, hf⟩ := h
  refine ⟨(), ?_⟩
  rcases open_fields Try.underlying23 Try.underlying36 (by kernel_rfl) (by kernel_rfl) hf with hcs | ⟨x, l, c, hcs, hl, hm, hi⟩
  · simp [Value.cells] at hcs
    obtain ⟨rfl, rfl, rfl⟩ := hcs
    intro i hi
    omega
  · simp [Value.cells] at hcs
    obtain ⟨rfl, rfl, rfl⟩ := hcs
    have one : ∀ (i j : Nat) (f : Field) (k : IntKind) (t : TypeId), Try.prog.underlying t = some (.int k) → f.type = t → (∃ (v : Value) (y : DataW H × List MemPlace) (n : Nat), W.cell? (x.add (i * 4 + j)) = some v ∧ DataW.trod enc Try.prog W 0 (fun _ => true) true n f.type [v] = some y) → ∃ n : Int, W.cell? (x.add (i * 4 + j)) = some (.int k n) ∧ (Lit.int k n).wf = true := by
      rintro i j f k t hu e ⟨v, y, n, hc, ht⟩
      rw [e] at ht
      obtain ⟨z, hz, _, hw⟩ := DataW.trod_int hu ht
      obtain rfl : v = .int k z := by simpa using hz
      exact ⟨z, hc, hw⟩
    have row : ∀ (i j : Nat) (f : Field), f.type = 22 → (∃ (v : Value) (y : DataW H × List MemPlace) (n : Nat), W.cell? (x.add (i * 4 + j)) = some v ∧ DataW.trod enc Try.prog W 0 (fun _ => true) true n f.type [v] = some y) → ∃ (B : Option Addr) (bs : List Int) (cb : Nat), W.cell? (x.add (i * 4 + j)) = some (.slice B bs.length cb) ∧ Kd.C (Kd.int .u8) W B bs.length bs := by
      rintro i j f e ⟨v, y, n, hc, ht⟩
      rw [e] at ht
      rcases open_ints Try.underlying22 Try.underlying5 (by kernel_rfl) ht with ⟨hcs, _⟩ | ⟨b, l, c, zs, hcs, _, hl, hm, hz, _, hcell, hwz⟩
      · obtain rfl : v = .slice none 0 0 := by simpa using hcs
        exact ⟨none, [], 0, hc, Kd.C_nil _ _⟩
      · obtain rfl : v = .slice (some b) l c := by simpa using hcs
        obtain ⟨l0, hl0, hr0, _⟩ := bytes_le (w := W) (a0 := some b) (len0 := l) (cap0 := c) (z0 := zs) (.inr ⟨b, rfl, hl, hm, by simpa using hz, hcell, hwz⟩)
        exact ⟨some b, l0, c, by rw [hl0]; exact hc, hr0⟩
    intro i hil
    obtain ⟨n0, c0, w0⟩ := one i 0 _ _ _ Try.underlying5 rfl (hi i hil 0 _ rfl)
    obtain ⟨n1, c1, _⟩ := one i 1 _ _ _ Try.underlying3 rfl (hi i hil 1 _ rfl)
    obtain ⟨n2, c2, _⟩ := one i 2 _ _ _ Try.underlying3 rfl (hi i hil 2 _ rfl)
    obtain ⟨B, bs, cb, c3, hr⟩ := row i 3 _ rfl (hi i hil 3 _ rfl)
    have b0 := bounds_u8 w0
    exact ⟨x, n0, n1, n2, B, bs, cb, rfl, c0, by rw [← add_field _ _ 1 (by omega)]; exact c1, by rw [← add_field _ _ 2 (by omega)]; exact c2, by rw [← add_field _ _ 3 (by omega)]; exact c3, by omega, hr⟩
end
theorem plays_any (n : Int) (A : Option Addr) (len cap : Nat) (w : World) (h : (Lit.int .u8 n).wf = true) (hA : ActsIn w A len) :
    Calls Try.prog 6 #[.int .u8 n, .slice A len cap] w fun e w' => e = .returned (.bool true) ∧ Below w.heap.size w w' := by
  have b := bounds_u8 h
  by_cases hl : 50 < len
  · exact plays_long n A len cap w hl
  · exact plays_short n A len cap w (by omega) (by omega) hA
end Go.Proofs.Ytcobkideokljfaa
