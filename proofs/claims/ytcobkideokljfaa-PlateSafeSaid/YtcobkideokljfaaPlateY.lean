/- PlateSafe: what is flushed is there behind any fall, whatever else is written elsewhere. -/
import Derived.Test.YtcobkideokljfaaPlateX
namespace Go.Proofs.Ytcobkideokljfaa
open Go.RowKit Go.Proofs.YtcobkideokljfaaW.PrintWords Go.Proofs.YtcobkideokljfaaW.PrintLast Go.Proofs.YtcobkideokljfaaW.PrintMore Go.Proofs.Ytcobkideokljfaa.PA
set_option linter.unusedVariables false
set_option linter.unusedSimpArgs false
theorem fit_dry {p : St} (h : Fit p) (n : Nat) : Fit (p.dry n) :=
  ⟨dry_sl _ _ h.sl (fun q hq => h.wl q (List.mem_of_mem_take hq)), fun q hq => by simp [St.dry] at hq, fun q hq => by simp [St.dry] at hq, by simp only [St.dry]; rw [dry_length]; exact h.sn, by simp [St.dry]⟩
theorem doSt_fit {p : St} {k y n : Int} {bs : List Int} (h : Fit p) (hw : p.wet.length < 1000) : Fit (doSt p k y n bs) := by
  obtain ⟨e1, e2, _, _⟩ := act_wet p
  unfold doSt
  split
  · unfold St.flush
    split
    · exact fit_dry h.act _
    · exact h.act
  · split
    · exact ⟨h.sl, h.wl, h.at_, h.sn, h.wn⟩
    · split
      · have hd := fit_dry h (min n.toNat p.wet.length)
        exact ⟨hd.sl, hd.wl, hd.at_, hd.sn, hd.wn⟩
      · split
        · rename_i hin
          have hs : (p.sector y.toNat).length = 64 := look_len (by rw [List.getD_eq_getElem?_getD, List.getElem?_eq_getElem (show y.toNat < p.safe.length by omega)]; exact h.sl _ (List.getElem_mem _)) h.wl
          have hf : ∀ T : List Int, T.length = 64 → Fit { p.act.1 with wet := p.wet ++ [((y.toNat : Int), T)] } := fun T hT =>
            ⟨by show ∀ s ∈ p.act.1.safe, _; rw [e2]; exact h.sl, fun q hq => by rcases List.mem_append.1 hq with hq | hq; exact h.wl q hq; rw [List.mem_singleton.1 hq]; exact hT, fun q hq => by show 0 ≤ q.1 ∧ q.1 < (p.act.1.safe.length : Int); rw [e2]; rcases List.mem_append.1 hq with hq | hq; exact h.at_ q hq; rw [List.mem_singleton.1 hq]; dsimp only; omega, by show p.act.1.safe.length ≤ 1000; rw [e2]; exact h.sn, by simp; omega⟩
          unfold St.write
          split
          · exact hf _ (pad_len hin.2.2)
          · split
            · exact hf _ (torn_len (Nat.min_le_right _ _) (pad_len hin.2.2) hs)
            · exact h.act
        · exact h
/-- Sector 4 is T, and nothing is on its way to it. -/
def Kept4 (T : List Int) (p : St) : Prop := p.safe.length = 5 ∧ p.safe[4]? = some T ∧ ∀ q ∈ p.wet, 0 ≤ q.1 ∧ q.1 ≠ 4
theorem dry4 {T : List Int} : ∀ (L : List Wr) (S : List (List Int)), S[4]? = some T → (∀ q ∈ L, 0 ≤ q.1 ∧ q.1 ≠ 4) → (drySafe S L)[4]? = some T
  | [], S, h, _ => h
  | q :: L, S, h, hq => by
    have h1 := hq q (List.mem_cons_self ..)
    refine dry4 L (S.set q.1.toNat q.2) ?_ (fun x hx => hq x (List.mem_cons_of_mem _ hx))
    rw [List.getElem?_set_ne (by omega)]
    exact h
theorem Kept4.dry {T : List Int} {p : St} (h : Kept4 T p) (n : Nat) : Kept4 T (p.dry n) :=
  ⟨by simp only [St.dry]; rw [dry_length]; exact h.1, dry4 _ _ h.2.1 (fun q hq => h.2.2 q (List.mem_of_mem_take hq)), fun q hq => by simp [St.dry] at hq⟩
theorem Kept4.act {T : List Int} {p : St} (h : Kept4 T p) : Kept4 T p.act.1 := by
  obtain ⟨e1, e2, _, _⟩ := act_wet p
  exact ⟨by rw [e2]; exact h.1, by rw [e2]; exact h.2.1, by rw [e1]; exact h.2.2⟩
theorem Kept4.do {T : List Int} {p : St} {k y n : Int} {bs : List Int} (h : Kept4 T p) (hk : y ≠ 4 ∨ 4 ≤ k) (hk8 : 0 ≤ k ∧ k < 8) : Kept4 T (doSt p k y n bs) := by
  obtain ⟨e1, e2, _, _⟩ := act_wet p
  unfold doSt
  split
  · unfold St.flush
    split
    · exact h.act.dry _
    · exact h.act
  · split
    · exact h
    · split
      · exact h.dry _
      · split
        · have hf : ∀ T' : List Int, Kept4 T { p.act.1 with wet := p.wet ++ [((y.toNat : Int), T')] } := fun T' =>
            ⟨by show p.act.1.safe.length = 5; rw [e2]; exact h.1, by show p.act.1.safe[4]? = _; rw [e2]; exact h.2.1, fun q hq => by rcases List.mem_append.1 hq with hq | hq; exact h.2.2 q hq; rw [List.mem_singleton.1 hq]; dsimp only; omega⟩
          unfold St.write
          split
          · exact hf _
          · split
            · exact hf _
            · exact h.act
        · exact h
/-- Both plates, that need not be one, while acts are done; block g has cs. -/
structure Both2 (w0 w : World) (g c : Nat) (sv wv : Value) (p q : St) (P : Nat → Prop) (x : Value) (sp : Int) (m : Nat) (cs : Array Value) : Prop where
  pl : Pl w0 w c sv wv p
  at_g : w.heap[g]? = some (.cells cs 33 (0, 0))
  r : RefIs w P x q sp
  ap : ∀ k, P k → ¬ Own c sv wv k ∧ k ≠ g
  og : ¬ Own c sv wv g
  gw : w0.heap.size ≤ g
  l1 : -1 ≤ q.left
  l2 : q.left ≤ 1000000
  k1 : -1 ≤ p.left
  k2 : p.left ≤ 1000000
  sp_ : q.spare = mx sp 0
  ps_ : p.spare = mx sp 0
  wm : p.wet.length ≤ m
  wq : q.wet.length ≤ m
  fq : Fit q
  sz : q.safe.length = p.safe.length
theorem Both2.put {w0 w V : World} {g c : Nat} {sv wv : Value} {p q : St} {P : Nat → Prop} {x : Value} {sp : Int} {m : Nat} {cs cs' : Array Value} (h : Both2 w0 w g c sv wv p q P x sp m cs) (hq : V.heap[g]? = some (.cells cs' 33 (0, 0))) (f : Fr w V (fun i => i = g)) : Both2 w0 V g c sv wv p q P x sp m cs' :=
  ⟨⟨h.pl.is.keep f (fun k hk e => h.og (by have e : k = g := e; rw [← e]; exact hk)), h.pl.below.trans (f.below h.pl.below.size (fun i e => by have e : i = g := e; rw [e]; exact h.gw)), h.pl.own⟩, hq, h.r.step (fun k hk hlt => f.block k hlt (h.ap k hk).2), h.ap, h.og, h.gw, h.l1, h.l2, h.k1, h.k2, h.sp_, h.ps_, h.wm, h.wq, h.fq, h.sz⟩
theorem Both2.by {w0 w V : World} {g c : Nat} {sv wv : Value} {p q : St} {P : Nat → Prop} {x : Value} {sp : Int} {m : Nat} {cs : Array Value} (h : Both2 w0 w g c sv wv p q P x sp m cs) (hb : Below w.heap.size w V) : Both2 w0 V g c sv wv p q P x sp m cs :=
  ⟨h.pl.by hb, blk_below h.at_g hb, h.r.below hb, h.ap, h.og, h.gw, h.l1, h.l2, h.k1, h.k2, h.sp_, h.ps_, h.wm, h.wq, h.fq, h.sz⟩
theorem Both2.act {w0 w : World} {g c : Nat} {sv wv : Value} {p q : St} {P : Nat → Prop} {x : Value} {sp : Int} {m : Nat} {cs : Array Value} (h : Both2 w0 w g c sv wv p q P x sp m cs) (hm : m < 1000) {x0 : Addr} {i : Nat} {k y n : Int} {B : Option Addr} {bs : List Int} {cb : Nat} (ha : ActAt w0 x0 i k y n B bs cb) :
    Calls Try.prog 13 #[.pointer (some ⟨c, 0, none⟩), x, .agg #[.int .u8 k, .int .i64 y, .int .i64 n, .slice B bs.length cb]] w fun e w' => ∃ x' wv' P' sp' r, e = .returned (.tuple #[x', .bool r]) ∧ Both2 w0 w' g c sv wv' (doSt p (k.tmod 8) y n bs) (doSt q (k.tmod 8) y n bs) P' x' sp' (m + 1) cs := by
  have hlg := blk_lt h.at_g
  obtain ⟨sp1, hsp1, i1, i2, i3, i4, i5⟩ := doSt_inv (k := k.tmod 8) (y := y) (n := n) (bs := bs) h.l1 h.l2 h.sp_
  obtain ⟨sp2, hsp2, j1, j2, j3, j4, j5⟩ := doSt_inv (k := k.tmod 8) (y := y) (n := n) (bs := bs) h.k1 h.k2 h.ps_
  have hqm : q.wet.length < 1000 := Nat.lt_of_le_of_lt h.wq hm
  refine (do2_c h.pl.is h.r.bound (fun k hk => (h.ap k hk.1).1) h.l1 h.l2 (Nat.lt_of_le_of_lt h.wm hm) hqm h.sp_ h.fq h.sz k y n ha.k8 B cb bs (fun W' hf => Kd.C_below ha.r (h.pl.below.trans (hf.below h.pl.below.size (fun i hi => h.pl.own i hi))))).mono ?_
  rintro e w' ⟨x', wv', R, r, rfl, z1, z2, z3, z4, z5⟩
  have hog : ¬ Own c sv wv' g := fun hk => (z5 g hk).elim h.og (by omega)
  rw [← hsp1] at z2
  rw [← hsp1] at hsp2
  subst hsp2
  exact ⟨x', wv', R, sp2, r, rfl, h.pl.step z1 z4 z5, z4.at h.at_g h.og, z2, fun k hk => ⟨(z3 k hk).2, (z3 k hk).1.elim (fun h2 => (h.ap k h2.1).2) (by omega)⟩, hog, h.gw, i2, i3, j2, j3, i1, j1, by have := h.wm; omega, by have := h.wq; omega, doSt_fit h.fq hqm, by rw [i5, j5]; exact h.sz⟩
def ps14.T14 : Bool × List (List Nat × List Nat) := (true, [([], []), ([], []), ([], []), ([], []), ([2, 3], [2, 3]), ([4], [4]), ([0, 1, 5], [0, 1, 5]), ([6], [6]), ([7], [7]), ([7], [7]), ([8, 6, 0, 1, 2, 3, 4, 5, 6, 7, 8], [8])])
def ps14.B14 : List Nat := [0, 0, 0, 0, 12, 28, 63, 127, 255, 255, 511]
theorem ps14.tab14 : rtab .any (opsOf Try.f3 14) = ps14.T14 := by kernel_rfl
theorem ps14.bits14 : waitsOk ps14.T14.2 ps14.B14 = true := by kernel_rfl
set_option maxHeartbeats 8000000 in
theorem safe_short (A0 A : Option Addr) (c0 : Nat) (l0 : List Int) (len cap : Nat) (keep : Int) (w : World) (g0 : l0.length ≤ 64) (hlen : len ≤ 30) (hr0 : Kd.C (Kd.int .u8) w A0 l0.length l0) (hA : ActsIn w A len) :
    Calls Try.prog 3 #[.slice A0 l0.length c0, .slice A len cap, .int .i64 keep] w fun e w' => e = .returned (.bool true) ∧ Below w.heap.size w w' := by
  have HA := Aside0.mk hA
  have HR0 := Aside0.mk hr0
  have HG0 := Aside0.mk g0
  have HLEN := Aside0.mk hlen
  have h0 : ¬ (64 : Int) < (l0.length : Int) := by omega
  have h1 : ¬ (30 : Int) < (len : Int) := by omega
  clear hA hr0 g0
  go_enter Try.func3, Try.ntmps3
  go_wp2_with fail
  go_at_call 8
  refine (awake_c _).mono ?_
  rintro e w0 ⟨rfl, hb0⟩
  have HB0 := Aside0.mk hb0
  clear hb0
  go_wp2_with fail
  go_at_call 9
  refine (new_c 5 5 (by decide) (by omega) _).mono ?_
  rintro e w1 ⟨c, rfl, hb, sv, wv, h, ho⟩
  have H1 : Aside0 (Pl w w1 c sv wv ⟨[z64, z64, z64, z64, z64], [], -1, false, 0, 0⟩) := ⟨⟨h, HB0.out.trans (hb.mono HB0.out.size), fun k hk => Nat.le_trans HB0.out.size (ho k hk)⟩⟩
  clear h hb ho
  go_wp2_with fail
  go_at_call 10
  refine (write_c H1.out.is 4 (by simp) l0 HG0.out (by simp) A0 c0 (Kd.C_below HR0.out H1.out.below)).mono ?_
  rintro e w2 ⟨rfl, wv2, h2, f2, o2⟩
  rw [write_free] at h2 ⊢
  have H2 := Aside0.mk (H1.out.step h2 f2 o2)
  clear h2 f2 o2 H1
  go_wp2_with fail
  go_at_call 11
  refine (flush_c H2.out.is).mono ?_
  rintro e w3 ⟨rfl, ⟨wv3, h3, o3⟩, f3⟩
  rw [flush_free] at h3 ⊢
  have H3 : Aside0 (Pl w w3 c sv wv3 ⟨[z64, z64, z64, z64, pad l0], [], -1, false, wrap64 (wrap64 (0 + 1) + 1), 0⟩) := ⟨H2.out.step h3 f3 (fun k hk => .inl (o3 k hk))⟩
  clear h3 f3 o3 H2
  obtain ⟨p0, hp0⟩ : ∃ z : St, z = ⟨[z64, z64, z64, z64, pad l0], [], -1, false, wrap64 (wrap64 (0 + 1) + 1), 0⟩ := ⟨_, rfl⟩
  have HP0 : Aside0 (p0.left = -1 ∧ p0.spare = 0 ∧ p0.wet = [] ∧ Kept4 (pad l0) p0) := ⟨by rw [hp0]; exact ⟨rfl, rfl, rfl, rfl, rfl, fun q hq => by simp at hq⟩⟩
  rw [← hp0] at H3
  clear hp0
  go_wp2_with fail
  go_at_call 12
  refine (rnew_c 5 (by omega) _).mono ?_
  rintro e w4 ⟨x, rfl, hx, hb⟩
  have H4 := Aside0.mk (H3.out.by hb)
  have HX := Aside0.mk hx
  obtain ⟨B0, d0, B1, d1, rfl, _, _⟩ := hx
  obtain ⟨q0, hq0⟩ : ∃ z, z = St.new 5 := ⟨_, rfl⟩
  have HQ0 : Aside0 (q0.left = -1 ∧ q0.spare = 0 ∧ q0.wet = [] ∧ q0.safe.length = 5 ∧ Fit q0) := ⟨by rw [hq0]; exact ⟨rfl, rfl, rfl, rfl, fit_new (by omega)⟩⟩
  rw [← hq0] at HX ⊢
  clear hb hq0
  go_wp2_with (
    refine wp_store_new rfl 33 (.tmp 8) (.tmp 33) rfl #[.slice B0 q0.safe.length d0, .slice B1 q0.wet.length d1, .int .i64 q0.left, .int .i64 0, .bool q0.off, .int .i64 q0.acts] (by rfl) (by rfl) (by kernel_rfl) (by rfl) (by first | kernel_rfl | (simp [Value.oneCell']; done)) ?_
    intro V hv hV
    obtain ⟨g, hg⟩ : ∃ g, g = w4.heap.size := ⟨_, rfl⟩
    have H5 : Aside0 (Both2 w V g c sv wv3 p0 q0 (fun k => w3.heap.size ≤ k ∧ k < w4.heap.size) (.agg #[.slice B0 q0.safe.length d0, .slice B1 q0.wet.length d1, .int .i64 q0.left, .int .i64 0, .bool q0.off, .int .i64 q0.acts]) 0 0 #[.slice B0 q0.safe.length d0, .slice B1 q0.wet.length d1, .int .i64 q0.left, .int .i64 0, .bool q0.off, .int .i64 q0.acts]) := ⟨by
      have hb3 : Below w4.heap.size w4 V := by rw [hV]; exact below_alloc (Below.refl _ _) _
      have hl2 := H4.out.below.size
      obtain ⟨z1, z2, z3, z4, z5⟩ := HQ0.out
      obtain ⟨y1, y2, y3, y4⟩ := HP0.out
      refine ⟨H4.out.by hb3, by rw [hg]; exact hv, HX.out.bound.below hb3, fun k hk => ⟨fun h => by have := H3.out.is.lt h; have := hk.1; omega, by have := hk.2; omega⟩, fun h => by have := H4.out.is.lt h; omega, by omega, by omega, by omega, by omega, by omega, by rw [z2]; rfl, by rw [y2]; rfl, by rw [y3]; exact Nat.le_refl _, by rw [z3]; exact Nat.le_refl _, z5, by rw [z4, y4.1]⟩⟩
    rw [← hg]
    clear hv hV hg)
  clear HX H4 H3 HB0
  go_loopg [9] len (fun kq v9 wr => ∃ i : Nat, v9 = .int .i64 i ∧ i ≤ len ∧ Aside0 (kq = len - i) ∧ Aside0 (∃ wv p q P sp cs, Both2 w wr g c sv wv p q P (.agg cs) sp i cs ∧ Kept4 (pad l0) p))
  case atStart => exact ⟨0, rfl, by omega, ⟨rfl⟩, ⟨_, _, _, _, _, _, H5.out, HP0.out.2.2.2⟩⟩
  case round =>
    obtain ⟨i, rfl, hi, hkq, HT⟩ := hrel
    obtain ⟨⟨wv, p, q, P, sp, cs, hT, hK⟩⟩ := HT
    have HT := Aside0.mk hT
    have HK := Aside0.mk hK
    obtain ⟨A0', c0', A1, c1, hex, _, _⟩ := hT.r
    injection hex with hex
    subst hex
    clear hT hK
    by_cases hlt : i < len
    · obtain ⟨x, k, y, n1, B, bs, cb, rfl, ha0⟩ := HA.out i hlt
      have HAC0 := Aside0.mk ha0
      have h8 := Int.tmod_nonneg 8 ha0.k8.1
      have h9 := Int.tmod_lt_of_pos k (show (0 : Int) < 8 by omega)
      obtain ⟨a0, a1, a2, a3, _, _⟩ := ha0.below HT.out.pl.below
      have HLT := Aside0.mk hlt
      have H89 := Aside0.mk (And.intro h8 h9)
      have i1 : (i : Int) < len := by omega
      clear hlt ha0 h8 h9
      by_cases hp : (80 : Int) < (bs.length : Int)
      · go_wp2_with fail
        go_ret
        exact ⟨rfl, HT.out.pl.below⟩
      · by_cases hdo : y ≠ 4 ∨ 4 ≤ k.tmod 8
        · obtain ⟨k0, k1, k2, k3, k4, k5, kf⟩ := cells6 HT.out.at_g
          have hDO := Both2.act (HT.out.by (below_drew (Below.refl _ _))) (by have := HLEN.out; omega) HAC0.out
          have hK9 := HK.out.do (n := n1) (bs := bs) hdo H89.out
          obtain ⟨p9, hp9⟩ : ∃ z, z = doSt p (k.tmod 8) y n1 bs := ⟨_, rfl⟩
          obtain ⟨q9, hq9⟩ : ∃ z, z = doSt q (k.tmod 8) y n1 bs := ⟨_, rfl⟩
          rw [← hp9, ← hq9] at hDO
          rw [← hp9] at hK9
          have HDO := Aside0.mk hDO
          have HK9 := Aside0.mk hK9
          have HDD := Aside0.mk hdo
          clear hDO hp9 hq9 hK9 hdo
          by_cases hy4 : y = 4
          · have hk4 : 4 ≤ k.tmod 8 := HDD.out.resolve_left (fun h => h hy4)
            subst hy4
            have hk7 : 4 ≤ k % 8 := by rw [← Int.tmod_eq_emod_of_nonneg HAC0.out.k8.1]; exact hk4
            go_upto_region 14 with fail
            refine start_ (n := 11) (S := fun w' => w'.cell? ⟨g, 0, none⟩ = some (.slice A0' q.safe.length c0') ∧ w'.cell? ⟨g, 1, none⟩ = some (.slice A1 q.wet.length c1) ∧ w'.cell? ⟨g, 2, none⟩ = some (.int .i64 q.left) ∧ w'.cell? ⟨g, 3, none⟩ = some (.int .i64 sp) ∧ w'.cell? ⟨g, 4, none⟩ = some (.bool q.off) ∧ w'.cell? ⟨g, 5, none⟩ = some (.int .i64 q.acts) ∧ w'.cell? (x.add (i * 4)) = some (.int .u8 k) ∧ w'.cell? ⟨(x.add (i * 4)).block, (x.add (i * 4)).off + 1, none⟩ = some (.int .i64 4) ∧ w'.cell? ⟨(x.add (i * 4)).block, (x.add (i * 4)).off + 2, none⟩ = some (.int .i64 n1) ∧ w'.cell? ⟨(x.add (i * 4)).block, (x.add (i * 4)).off + 3, none⟩ = some (.slice B bs.length cb)) (ds := [10]) #[false, false, false, false, false, false, false, false, false, false, false] (by kernel_rfl) rfl rfl ⟨k0, k1, k2, k3, k4, k5, a0, a1, a2, a3⟩ (fun hHeld => ?_)
            refine with_tabW ps14.tab14 ps14.bits14 (fun HT_ HW_ => ?_)
            refine pure_ (i := 0) (N := some 63) (v := ?_) (a' := ?_) #[true, false, false, false, false, false, false, false, false, false, false] rfl rfl (any_of HT_.out (by kernel_rfl)) (fun _ _ _ h => h) (Or.inl ⟨by rfl, ?_⟩) ?_ ?_
            rotate_left
            · intro w'
              go_simp
              with_reducible rfl
            rotate_left
            · simp only [Act.put, List.setIfInBounds_toArray, List.set_cons_zero, List.set_cons_succ, i64_w, i32_w]
              rfl
            refine pure_ (i := 2) (N := some 65) (v := ?_) (a' := ?_) #[true, false, true, false, false, false, false, false, false, false, false] rfl rfl (any_of HT_.out (by kernel_rfl)) (fun _ _ _ h => h) (Or.inl ⟨by rfl, ?_⟩) ?_ ?_
            rotate_left
            · intro w'
              go_simp
              with_reducible rfl
            rotate_left
            · simp only [Act.put, List.setIfInBounds_toArray, List.set_cons_zero, List.set_cons_succ, i64_w, i32_w]
              rfl
            refine pure_ (i := 3) (N := some 66) (v := ?_) (a' := ?_) #[true, false, true, true, false, false, false, false, false, false, false] rfl rfl (any_of HT_.out (by kernel_rfl)) (fun _ _ _ h => h) (Or.inl ⟨by rfl, ?_⟩) ?_ ?_
            rotate_left
            · intro w'
              go_simp
              with_reducible rfl
            rotate_left
            · simp only [Act.put, List.setIfInBounds_toArray, List.set_cons_zero, List.set_cons_succ, i64_w, i32_w]
              rfl
            refine pure_ (i := 4) (N := some 67) (v := ?_) (a' := ?_) #[true, false, true, true, true, false, false, false, false, false, false] rfl rfl (any_of HT_.out (by kernel_rfl)) (fun _ _ _ h => h) (Or.inl ⟨by rfl, ?_⟩) ?_ ?_
            rotate_left
            · intro w'
              go_simp
              with_reducible rfl
            rotate_left
            · simp only [Act.put, List.setIfInBounds_toArray, List.set_cons_zero, List.set_cons_succ, i64_w, i32_w]
              rfl
            refine take_ (i := 1) (N := some 64) (v := ?_) (a' := ?_) #[true, true, true, true, true, false, false, false, false, false, false] rfl rfl (take_ofW HT_.out HW_.out (by kernel_rfl)) (fun _ _ _ h => h) (Or.inl ⟨by rfl, ?_⟩) hHeld ?_ ?_
            rotate_left
            · rintro w' ⟨s0, s1, s2, s3, s4, s5, s6, s7, s8, s9⟩
              go_simp
              with_reducible rfl
            rotate_left
            · simp only [Act.put, List.setIfInBounds_toArray, List.set_cons_zero, List.set_cons_succ, i64_w, i32_w]
              rfl
            refine take_ (i := 5) (N := some 68) (v := ?_) (a' := ?_) #[true, true, true, true, true, true, false, false, false, false, false] rfl rfl (take_ofW HT_.out HW_.out (by kernel_rfl)) (fun _ _ _ h => h) (Or.inl ⟨by rfl, ?_⟩) hHeld ?_ ?_
            rotate_left
            · rintro w' ⟨s0, s1, s2, s3, s4, s5, s6, s7, s8, s9⟩
              go_simp
              with_reducible rfl
            rotate_left
            · simp only [Act.put, List.setIfInBounds_toArray, List.set_cons_zero, List.set_cons_succ, i64_w, i32_w]
              rfl
            refine one_ (i := 6) (N := some 69) #[true, true, true, true, true, true, true, false, false, false, false] rfl rfl (one_of HT_.out (by kernel_rfl)) (by decide) (fun K hK => ?_)
            refine goes_ Try.func13 (by kernel_rfl) rfl #[.pointer (some ⟨c, 0, none⟩), .agg #[.slice A0' q.safe.length c0', .slice A1 q.wet.length c1, .int .i64 q.left, .int .i64 sp, .bool q.off, .int .i64 q.acts], .agg #[.int .u8 k, .int .i64 4, .int .i64 n1, .slice B bs.length cb]] (by rfl) rfl rfl (by simp only [List.map_toArray, List.map_cons, List.map_nil]; rfl) ?_
            with_reducible refine HDO.out.mono ?_
            rintro r w9 ⟨x9, wv9, P9, sp9, b9, rfl, h9⟩
            refine ⟨_, rfl, ?_⟩
            have H9 := Aside0.mk h9
            obtain ⟨C0, f0, C1, f1, rfl, _, _⟩ := h9.r
            have q9_ := cells6 h9.at_g
            have k0 := q9_.1
            have k1 := q9_.2.1
            have k2 := q9_.2.2.1
            have k3 := q9_.2.2.2.1
            have k4 := q9_.2.2.2.2.1
            have k5 := q9_.2.2.2.2.2.1
            obtain ⟨b0, b1, b2, b3, _, _⟩ := HAC0.out.below H9.out.pl.below
            clear q9_ h9
            refine hK.out _ _ ⟨k0, k1, k2, k3, k4, k5, b0, b1, b2, b3⟩ (fun hHeld => ?_)
            clear hK K
            refine norm_ (a' := ?_) ?_ ?_
            rotate_left
            · show Act.put _ (some 69) _ = _
              simp only [Act.put, List.setIfInBounds_toArray, List.set_cons_zero, List.set_cons_succ, i64_w, i32_w]
              rfl
            refine pure_ (i := 7) (N := some 62) (v := ?_) (a' := ?_) #[true, true, true, true, true, true, true, true, false, false, false] rfl rfl (any_of HT_.out (by kernel_rfl)) (fun _ _ _ h => h) (Or.inl ⟨by rfl, ?_⟩) ?_ ?_
            rotate_left
            · intro w'
              go_simp
              with_reducible rfl
            rotate_left
            · simp only [Act.put, List.setIfInBounds_toArray, List.set_cons_zero, List.set_cons_succ, i64_w, i32_w]
              rfl
            refine pure_ (i := 8) (N := some 70) (v := ?_) (a' := ?_) #[true, true, true, true, true, true, true, true, true, false, false] rfl rfl (any_of HT_.out (by kernel_rfl)) (fun _ _ _ h => h) (Or.inl ⟨by rfl, ?_⟩) ?_ ?_
            rotate_left
            · intro w'
              go_simp
              with_reducible rfl
            rotate_left
            · simp only [Act.put, List.setIfInBounds_toArray, List.set_cons_zero, List.set_cons_succ, i64_w, i32_w]
              rfl
            refine pure_ (i := 9) (N := some 71) (v := ?_) (a' := ?_) #[true, true, true, true, true, true, true, true, true, true, false] rfl rfl (any_of HT_.out (by kernel_rfl)) (fun _ _ _ h => h) (Or.inl ⟨by rfl, ?_⟩) ?_ ?_
            rotate_left
            · intro w'
              go_simp
              with_reducible rfl
            rotate_left
            · simp only [Act.put, List.setIfInBounds_toArray, List.set_cons_zero, List.set_cons_succ, i64_w, i32_w]
              rfl
            refine last_ (i := 10) (N := none) #[true, true, true, true, true, true, true, true, true, true, true] rfl rfl (one_of HT_.out (by kernel_rfl)) (by decide) (fun K hK => ?_)
            refine row_store (by rfl) 33 (.tmp 8) (.tmp 70) rfl g #[.slice C0 q9.safe.length f0, .slice C1 q9.wet.length f1, .int .i64 q9.left, .int .i64 sp9, .bool q9.off, .int .i64 q9.acts] (by rfl) (by rfl) 33 _ H9.out.at_g (by rfl) (by kernel_rfl) (by first | kernel_rfl | (simp [Value.oneCell']; done)) ?_
            intro V10 hv10 hf10
            have H10 := Aside0.mk (H9.out.put hv10 hf10)
            clear hv10 hf10
            refine hK.out _ _ ?_
            clear hK K
            refine done_ (done_of HT_.out (by kernel_rfl)) ?_
            go_wp2_with fail
            go_roundg (len - (i + 1))
            case measure => have := hkq.out; have := HLT.out; omega
            case rel => exact ⟨i + 1, by go_num, by have := HLT.out; omega, ⟨rfl⟩, ⟨_, _, _, _, _, _, H10.out, HK9.out⟩⟩
          · have hy4b : (y != 4) = true := by simp [hy4]
            go_upto_region 14 with fail
            refine start_ (n := 11) (S := fun w' => w'.cell? ⟨g, 0, none⟩ = some (.slice A0' q.safe.length c0') ∧ w'.cell? ⟨g, 1, none⟩ = some (.slice A1 q.wet.length c1) ∧ w'.cell? ⟨g, 2, none⟩ = some (.int .i64 q.left) ∧ w'.cell? ⟨g, 3, none⟩ = some (.int .i64 sp) ∧ w'.cell? ⟨g, 4, none⟩ = some (.bool q.off) ∧ w'.cell? ⟨g, 5, none⟩ = some (.int .i64 q.acts) ∧ w'.cell? (x.add (i * 4)) = some (.int .u8 k) ∧ w'.cell? ⟨(x.add (i * 4)).block, (x.add (i * 4)).off + 1, none⟩ = some (.int .i64 y) ∧ w'.cell? ⟨(x.add (i * 4)).block, (x.add (i * 4)).off + 2, none⟩ = some (.int .i64 n1) ∧ w'.cell? ⟨(x.add (i * 4)).block, (x.add (i * 4)).off + 3, none⟩ = some (.slice B bs.length cb)) (ds := [10]) #[false, false, false, false, false, false, false, false, false, false, false] (by kernel_rfl) rfl rfl ⟨k0, k1, k2, k3, k4, k5, a0, a1, a2, a3⟩ (fun hHeld => ?_)
            refine with_tabW ps14.tab14 ps14.bits14 (fun HT_ HW_ => ?_)
            refine pure_ (i := 0) (N := some 63) (v := ?_) (a' := ?_) #[true, false, false, false, false, false, false, false, false, false, false] rfl rfl (any_of HT_.out (by kernel_rfl)) (fun _ _ _ h => h) (Or.inl ⟨by rfl, ?_⟩) ?_ ?_
            rotate_left
            · intro w'
              go_simp
              with_reducible rfl
            rotate_left
            · simp only [Act.put, List.setIfInBounds_toArray, List.set_cons_zero, List.set_cons_succ, i64_w, i32_w]
              rfl
            refine pure_ (i := 2) (N := some 65) (v := ?_) (a' := ?_) #[true, false, true, false, false, false, false, false, false, false, false] rfl rfl (any_of HT_.out (by kernel_rfl)) (fun _ _ _ h => h) (Or.inl ⟨by rfl, ?_⟩) ?_ ?_
            rotate_left
            · intro w'
              go_simp
              with_reducible rfl
            rotate_left
            · simp only [Act.put, List.setIfInBounds_toArray, List.set_cons_zero, List.set_cons_succ, i64_w, i32_w]
              rfl
            refine pure_ (i := 3) (N := some 66) (v := ?_) (a' := ?_) #[true, false, true, true, false, false, false, false, false, false, false] rfl rfl (any_of HT_.out (by kernel_rfl)) (fun _ _ _ h => h) (Or.inl ⟨by rfl, ?_⟩) ?_ ?_
            rotate_left
            · intro w'
              go_simp
              with_reducible rfl
            rotate_left
            · simp only [Act.put, List.setIfInBounds_toArray, List.set_cons_zero, List.set_cons_succ, i64_w, i32_w]
              rfl
            refine pure_ (i := 4) (N := some 67) (v := ?_) (a' := ?_) #[true, false, true, true, true, false, false, false, false, false, false] rfl rfl (any_of HT_.out (by kernel_rfl)) (fun _ _ _ h => h) (Or.inl ⟨by rfl, ?_⟩) ?_ ?_
            rotate_left
            · intro w'
              go_simp
              with_reducible rfl
            rotate_left
            · simp only [Act.put, List.setIfInBounds_toArray, List.set_cons_zero, List.set_cons_succ, i64_w, i32_w]
              rfl
            refine take_ (i := 1) (N := some 64) (v := ?_) (a' := ?_) #[true, true, true, true, true, false, false, false, false, false, false] rfl rfl (take_ofW HT_.out HW_.out (by kernel_rfl)) (fun _ _ _ h => h) (Or.inl ⟨by rfl, ?_⟩) hHeld ?_ ?_
            rotate_left
            · rintro w' ⟨s0, s1, s2, s3, s4, s5, s6, s7, s8, s9⟩
              go_simp
              with_reducible rfl
            rotate_left
            · simp only [Act.put, List.setIfInBounds_toArray, List.set_cons_zero, List.set_cons_succ, i64_w, i32_w]
              rfl
            refine take_ (i := 5) (N := some 68) (v := ?_) (a' := ?_) #[true, true, true, true, true, true, false, false, false, false, false] rfl rfl (take_ofW HT_.out HW_.out (by kernel_rfl)) (fun _ _ _ h => h) (Or.inl ⟨by rfl, ?_⟩) hHeld ?_ ?_
            rotate_left
            · rintro w' ⟨s0, s1, s2, s3, s4, s5, s6, s7, s8, s9⟩
              go_simp
              with_reducible rfl
            rotate_left
            · simp only [Act.put, List.setIfInBounds_toArray, List.set_cons_zero, List.set_cons_succ, i64_w, i32_w]
              rfl
            refine one_ (i := 6) (N := some 69) #[true, true, true, true, true, true, true, false, false, false, false] rfl rfl (one_of HT_.out (by kernel_rfl)) (by decide) (fun K hK => ?_)
            refine goes_ Try.func13 (by kernel_rfl) rfl #[.pointer (some ⟨c, 0, none⟩), .agg #[.slice A0' q.safe.length c0', .slice A1 q.wet.length c1, .int .i64 q.left, .int .i64 sp, .bool q.off, .int .i64 q.acts], .agg #[.int .u8 k, .int .i64 y, .int .i64 n1, .slice B bs.length cb]] (by rfl) rfl rfl (by simp only [List.map_toArray, List.map_cons, List.map_nil]; rfl) ?_
            with_reducible refine HDO.out.mono ?_
            rintro r w9 ⟨x9, wv9, P9, sp9, b9, rfl, h9⟩
            refine ⟨_, rfl, ?_⟩
            have H9 := Aside0.mk h9
            obtain ⟨C0, f0, C1, f1, rfl, _, _⟩ := h9.r
            have q9_ := cells6 h9.at_g
            have k0 := q9_.1
            have k1 := q9_.2.1
            have k2 := q9_.2.2.1
            have k3 := q9_.2.2.2.1
            have k4 := q9_.2.2.2.2.1
            have k5 := q9_.2.2.2.2.2.1
            obtain ⟨b0, b1, b2, b3, _, _⟩ := HAC0.out.below H9.out.pl.below
            clear q9_ h9
            refine hK.out _ _ ⟨k0, k1, k2, k3, k4, k5, b0, b1, b2, b3⟩ (fun hHeld => ?_)
            clear hK K
            refine norm_ (a' := ?_) ?_ ?_
            rotate_left
            · show Act.put _ (some 69) _ = _
              simp only [Act.put, List.setIfInBounds_toArray, List.set_cons_zero, List.set_cons_succ, i64_w, i32_w]
              rfl
            refine pure_ (i := 7) (N := some 62) (v := ?_) (a' := ?_) #[true, true, true, true, true, true, true, true, false, false, false] rfl rfl (any_of HT_.out (by kernel_rfl)) (fun _ _ _ h => h) (Or.inl ⟨by rfl, ?_⟩) ?_ ?_
            rotate_left
            · intro w'
              go_simp
              with_reducible rfl
            rotate_left
            · simp only [Act.put, List.setIfInBounds_toArray, List.set_cons_zero, List.set_cons_succ, i64_w, i32_w]
              rfl
            refine pure_ (i := 8) (N := some 70) (v := ?_) (a' := ?_) #[true, true, true, true, true, true, true, true, true, false, false] rfl rfl (any_of HT_.out (by kernel_rfl)) (fun _ _ _ h => h) (Or.inl ⟨by rfl, ?_⟩) ?_ ?_
            rotate_left
            · intro w'
              go_simp
              with_reducible rfl
            rotate_left
            · simp only [Act.put, List.setIfInBounds_toArray, List.set_cons_zero, List.set_cons_succ, i64_w, i32_w]
              rfl
            refine pure_ (i := 9) (N := some 71) (v := ?_) (a' := ?_) #[true, true, true, true, true, true, true, true, true, true, false] rfl rfl (any_of HT_.out (by kernel_rfl)) (fun _ _ _ h => h) (Or.inl ⟨by rfl, ?_⟩) ?_ ?_
            rotate_left
            · intro w'
              go_simp
              with_reducible rfl
            rotate_left
            · simp only [Act.put, List.setIfInBounds_toArray, List.set_cons_zero, List.set_cons_succ, i64_w, i32_w]
              rfl
            refine last_ (i := 10) (N := none) #[true, true, true, true, true, true, true, true, true, true, true] rfl rfl (one_of HT_.out (by kernel_rfl)) (by decide) (fun K hK => ?_)
            refine row_store (by rfl) 33 (.tmp 8) (.tmp 70) rfl g #[.slice C0 q9.safe.length f0, .slice C1 q9.wet.length f1, .int .i64 q9.left, .int .i64 sp9, .bool q9.off, .int .i64 q9.acts] (by rfl) (by rfl) 33 _ H9.out.at_g (by rfl) (by kernel_rfl) (by first | kernel_rfl | (simp [Value.oneCell']; done)) ?_
            intro V10 hv10 hf10
            have H10 := Aside0.mk (H9.out.put hv10 hf10)
            clear hv10 hf10
            refine hK.out _ _ ?_
            clear hK K
            refine done_ (done_of HT_.out (by kernel_rfl)) ?_
            go_wp2_with fail
            go_roundg (len - (i + 1))
            case measure => have := hkq.out; have := HLT.out; omega
            case rel => exact ⟨i + 1, by go_num, by have := HLT.out; omega, ⟨rfl⟩, ⟨_, _, _, _, _, _, H10.out, HK9.out⟩⟩
        · have hy4 : y = 4 := by omega
          have hk4 : ¬ 4 ≤ k.tmod 8 := fun h => hdo (.inr h)
          subst hy4
          have hk5 : decide (4 ≤ k.tmod 8) = false := decide_eq_false hk4
          have hk6 : k.tmod 8 < 4 := by omega
          have hk7 : ¬ 4 ≤ k % 8 := by rw [← Int.tmod_eq_emod_of_nonneg HAC0.out.k8.1]; exact hk4
          have HSTEP : Aside0 (∃ wv p q P sp cs, Both2 w wr g c sv wv p q P (.agg cs) sp (i + 1) cs ∧ Kept4 (pad l0) p) := ⟨_, _, _, _, _, _, ⟨HT.out.pl, HT.out.at_g, HT.out.r, HT.out.ap, HT.out.og, HT.out.gw, HT.out.l1, HT.out.l2, HT.out.k1, HT.out.k2, HT.out.sp_, HT.out.ps_, Nat.le_succ_of_le HT.out.wm, Nat.le_succ_of_le HT.out.wq, HT.out.fq, HT.out.sz⟩, HK.out⟩
          clear hdo
          go_wp2_with fail
          go_roundg (len - (i + 1))
          case measure => have := hkq.out; have := HLT.out; omega
          case rel => exact ⟨i + 1, by go_num, by have := HLT.out; omega, ⟨rfl⟩, HSTEP⟩
    · have i1 : ¬ (i : Int) < len := by omega
      clear hlt
      go_wp2_with fail
      go_at_call 14
      refine (fall_c HT.out.pl.is keep).mono ?_
      rintro e w8 ⟨rfl, h8, f8⟩
      obtain ⟨p8, hp8⟩ : ∃ z, z = p.fall keep.toNat := ⟨_, rfl⟩
      have H8 := Aside0.mk (HT.out.pl.step h8 f8 own_nilw)
      have HK8 : Aside0 (p8.off = false ∧ p8.sector 4 = pad l0 ∧ 4 < p8.safe.length) := ⟨by
        have hd := HK.out.dry (min keep.toNat p.wet.length)
        rw [hp8]
        refine ⟨rfl, ?_, ?_⟩
        · show look 4 ((p.dry (min keep.toNat p.wet.length)).safe.getD 4 []) [] = pad l0
          rw [List.getD_eq_getElem?_getD, hd.2.1]; rfl
        · show 4 < (p.dry (min keep.toNat p.wet.length)).safe.length
          rw [hd.1]; omega⟩
      rw [← hp8] at H8
      clear h8 f8 hp8
      go_wp2_with fail
      go_at_call 15
      refine (read_c H8.out.is HK8.out.1 4 HK8.out.2.2).mono ?_
      rintro e w9 ⟨gs, rfl, hgs, hs, hb⟩
      rw [HK8.out.2.1] at hs
      have HS9 : Aside0 (w9.heap[gs]? = some (.cells (U (pad l0)).toArray 55 (0, 0))) := ⟨hs⟩
      have HB9 : Aside0 (Below w.heap.size w w9) := ⟨H8.out.below.trans (hb.mono H8.out.below.size)⟩
      clear hgs hs hb H8
      obtain ⟨iB, hiB, hzB, hsB, hbB⟩ := info_parts infoB
      go_wp2_with (first
        | ((with_reducible refine gate_dst (N := 80) rfl ?_)
           refine wpList_make_row _ rfl (.const (.int .i64 64)) (.const (.int .i64 64)) 22 rfl 5 iB (.int .u8 0) Try.underlying22 hiB hzB hsB rfl .i64 .i64 64 rfl rfl (by rw [hbB]; omega) (by omega) ?_
           rw [made64]
           obtain ⟨V, hV⟩ : ∃ V, V = w9.alloc (.cells (U z64).toArray 5) := ⟨_, rfl⟩
           obtain ⟨gw, hgw⟩ : ∃ gw, gw = w9.heap.size := ⟨_, rfl⟩
           have HV : Aside0 (Below w.heap.size w V ∧ V.heap[gs]? = some (.cells (U (pad l0)).toArray 55 (0, 0)) ∧ V.heap[gw]? = some (.cells (U z64).toArray 5 (0, 0)) ∧ gs < gw ∧ w.heap.size ≤ gw) := ⟨by rw [hV]; exact below_alloc HB9.out _, by rw [hV]; exact blk_alloc HS9.out _, by rw [hV, hgw]; exact blk_new _ _, by rw [hgw]; exact blk_lt HS9.out, by rw [hgw]; exact HB9.out.size⟩
           rw [← hV, ← hgw]
           clear hV hgw)
        | ((with_reducible refine gate_dst (N := 83) rfl ?_)
           refine wp_copy_pad rfl (.tmp 81) (.tmp 82) rfl gw A0 c0 l0 rfl rfl 5 HV.out.2.2.1 HG0.out (Kd.C_below HR0.out HV.out.1) ?_
           obtain ⟨V2, hV2⟩ : ∃ V2, V2 = V.setRow gw (U (pad l0)).toArray := ⟨_, rfl⟩
           have HV2 : Aside0 (Below w.heap.size w V2) := ⟨by rw [hV2]; exact below_setRow HV.out.1 HV.out.2.2.2.2 _⟩
           have hcs := sec_str (w := V2) (g := gs) (xs := pad l0) (by rw [hV2, setRow_other _ _ _ _ (by have := HV.out.2.2.2.1; omega)]; exact HV.out.2.1) (pad_len HG0.out)
           have hcw := Kd.C_string (P := Try.prog) (c := 64) Try.underlying22 Try.underlying5 Try.underlying9 (sec_C (w := V2) (g := gw) (xs := pad l0) (t := 5) (by rw [hV2]; exact blk_row HV.out.2.2.1) (pad_len HG0.out))
           rw [pad_len HG0.out] at hcw
           rw [← hV2]
           clear hV2))
      go_ret
      exact ⟨rfl, HV2.out⟩
theorem safe_long (A0 A : Option Addr) (c0 : Nat) (l0 : List Int) (len cap : Nat) (keep : Int) (w : World) (h : 64 < l0.length ∨ 30 < len) :
    Calls Try.prog 3 #[.slice A0 l0.length c0, .slice A len cap, .int .i64 keep] w fun e w' => e = .returned (.bool true) ∧ Below w.heap.size w w' := by
  by_cases h0 : 64 < l0.length
  · have h0' : (64 : Int) < (l0.length : Int) := by omega
    clear h
    go_enter Try.func3, Try.ntmps3
    go_wp2_with fail
    go_at_call 8
    refine (awake_c _).mono ?_
    rintro e w1 ⟨rfl, hb1⟩
    go_wp2_with fail
    go_at_call 8
    refine (awake_c _).mono ?_
    rintro e w2 ⟨rfl, hb2⟩
    go_wp2_with fail
    go_ret
    exact ⟨rfl, hb1.trans (hb2.mono hb1.size)⟩
  · have h1 : (30 : Int) < (len : Int) := by omega
    have h0' : ¬ (64 : Int) < (l0.length : Int) := by omega
    clear h
    go_enter Try.func3, Try.ntmps3
    go_wp2_with fail
    go_at_call 8
    refine (awake_c _).mono ?_
    rintro e w1 ⟨rfl, hb1⟩
    go_wp2_with fail
    go_at_call 8
    refine (awake_c _).mono ?_
    rintro e w2 ⟨rfl, hb2⟩
    go_wp2_with fail
    go_ret
    exact ⟨rfl, hb1.trans (hb2.mono hb1.size)⟩
theorem safe_any (a0 A : Option Addr) (len0 cap0 len cap : Nat) (z0 : List Int) (keep : Int) (w : World)
    (w0 : (a0 = none ∧ len0 = 0 ∧ cap0 = 0 ∧ z0 = []) ∨ ∃ x, a0 = some x ∧ len0 ≤ cap0 ∧ cap0 ≤ maxLen ∧ z0.length = cap0 ∧ (∀ i, i < z0.length → w.cell? (x.add i) = some (.int .u8 (z0.getD i 0))) ∧ ∀ n ∈ z0, (Lit.int .u8 n).wf = true) (hA : ActsIn w A len) :
    Calls Try.prog 3 #[.slice a0 len0 cap0, .slice A len cap, .int .i64 keep] w fun e w' => e = .returned (.bool true) ∧ Below w.heap.size w w' := by
  obtain ⟨l0, rfl, hr0, _⟩ := bytes_le w0
  by_cases hl : 64 < l0.length ∨ 30 < len
  · exact safe_long a0 A cap0 l0 len cap keep w hl
  · exact safe_short a0 A cap0 l0 len cap keep w (by omega) (by omega) hr0 hA
end Go.Proofs.Ytcobkideokljfaa
