/- A notice as bytes, and back; what is read of any bytes. -/
import Derived.Test.YtlbfmpjkdoecbaaDoorPAx11
import Derived.Test.YtlbfmpjkdoecbaaDoorPAx13
import Derived.Test.YtlbfmpjkdoecbaaDoorPAx14
import Derived.Test.YtlbfmpjkdoecbaaDoorPAx16
import Derived.Test.YtlbfmpjkdoecbaaDoorPAx2
import Derived.Test.YtlbfmpjkdoecbaaDoorPAx21
import Derived.Test.YtlbfmpjkdoecbaaDoorPAx22
import Derived.Test.YtlbfmpjkdoecbaaDoorPAx4
import Derived.Test.YtlbfmpjkdoecbaaDoorPAx7
import Derived.Test.YtlbfmpjkdoecbaaDoorPAx8
import Derived.Test.YtlbfmpjkdoecbaaDoorPAx9
import Derived.Test.YtlbfmpjkdoecbaaDoorPureBox
import Derived.Test.YtlbfmpjkdoecbaaDoorPureSeal
import Derived.Test.YtlbfmpjkdoecbaaDoorPAx12
import Derived.Test.YtlbfmpjkdoecbaaDoorPAx15
import Derived.OpenShut
namespace Go.Proofs.YtlbfmpjkdoecbaaDoor.Pure
open Go.RowKit Go.Proofs.YtlbfmpjkdoecbaaDoor.PA Go.Proofs.YtlbfmpjkdoecbaaDoorW.PrintWords Go.Proofs.YtlbfmpjkdoecbaaDoorW.PrintLast Go.Proofs.YtlbfmpjkdoecbaaDoorW.PrintMore

theorem awake_f (k : Nat) : paybooklaw11_awake.f (k + 1) = some true := by
  simp [paybooklaw11_awake.f, notice_Party.f, notice_Party.j0, notice_Answer.f]
theorem near_f (a b c d e v : Int) (ha : 0 ≤ a ∧ a ≤ 255) (hv : 0 ≤ v ∧ v ≤ 255) : ∃ a' b' c' d' e' v', paybooklaw11_near.f a b c d e v = some (a', b', c', d', e', v') ∧
    (1 ≤ a' ∧ a' ≤ 5) ∧ (0 ≤ b' ∧ b' ≤ 31) ∧ (0 ≤ c' ∧ c' ≤ 3652058) ∧ (0 ≤ d' ∧ d' ≤ 100) ∧ (0 ≤ e' ∧ e' < 1125899906842624) ∧ (0 ≤ v' ∧ v' ≤ 3) := by
  have w (n : Int) : IntKind.u64.wrap n = n % 18446744073709551616 := by simp [IntKind.wrap, IntKind.bits, IntKind.signed]
  refine ⟨_, _, _, _, _, _, rfl, ?_⟩
  rw [w, w, w, w, Int.tmod_eq_emod_of_nonneg (by omega), Int.tmod_eq_emod_of_nonneg (by omega), Int.tmod_eq_emod_of_nonneg (by omega), Int.tmod_eq_emod_of_nonneg (by omega), Int.tmod_eq_emod_of_nonneg (by omega), Int.tmod_eq_emod_of_nonneg (by omega)]
  unfold wrap64
  omega
theorem get_pack {n least most : Int} {r : List Int} (hr : Byt r) (hm : r.length ≤ 1000000) (h : I64 n) (h1 : least ≤ n) (h2 : n ≤ most) : Ev (fun k => pack_Box_Get.f k (packI n ++ r) 0 least most) (n, r, 0) := by
  have := get_ev (p := packI n ++ r) ((packI_byt n).append hr) (by have := packI_len h; simp only [List.length_append]; omega) 0 least most
  rwa [getI_pack h r h1 h2] at this
def Right (a b c d e v : Int) : Prop := (1 ≤ a ∧ a ≤ 5) ∧ (0 ≤ b ∧ b ≤ 31) ∧ (0 ≤ c ∧ c ≤ 3652058) ∧ (0 ≤ d ∧ d ≤ 100) ∧ (0 ≤ e ∧ e ≤ 1125899906842624) ∧ (0 ≤ v ∧ v ≤ 3)
theorem Right.i64 {a b c d e v : Int} (h : Right a b c d e v) : ∀ x ∈ [a, b, c, d, e, v], I64 x := by
  intro x hx
  unfold Right at h
  simp only [List.mem_cons, List.not_mem_nil, or_false] at hx
  unfold I64
  rcases hx with rfl | rfl | rfl | rfl | rfl | rfl <;> omega
theorem nput_ev {a b c d e v : Int} (h : Right a b c d e v) : Ev (fun k => order_Put.f k [] 0 a b c d e v) (packsI [a, b, c, d, e, v], 0) := by
  unfold order_Put.f
  have e1 : wrap64 a = a := by unfold Right at h; unfold wrap64; omega
  have e2 : wrap64 v = v := by unfold Right at h; unfold wrap64; omega
  rw [e1, e2]
  exact Ev.bind (put_ev h.i64 [] 0 (by simp)) (Ev.now _)
theorem nget_ev {a b c d e v : Int} (h : Right a b c d e v) {r : List Int} (hr : Byt r) (hm : r.length ≤ 1000) : Ev (fun k => order_Get.f k (packsI [a, b, c, d, e, v] ++ r) 0) (a, b, c, d, e, v, r, 0) := by
  have hi := h.i64
  unfold Right at h
  have b1 := (packI_byt v).append hr
  have b2 := (packI_byt e).append b1
  have b3 := (packI_byt d).append b2
  have b4 := (packI_byt c).append b3
  have b5 := (packI_byt b).append b4
  have i0 : I64 a := hi a (by simp)
  have i1 : I64 b := hi b (by simp)
  have i2 : I64 c := hi c (by simp)
  have i3 : I64 d := hi d (by simp)
  have i4 : I64 e := hi e (by simp)
  have i5 : I64 v := hi v (by simp)
  have l1 := packI_len i1
  have l2 := packI_len i2
  have l3 := packI_len i3
  have l4 := packI_len i4
  have l5 := packI_len i5
  have q : packsI [a, b, c, d, e, v] ++ r = packI a ++ (packI b ++ (packI c ++ (packI d ++ (packI e ++ (packI v ++ r))))) := by simp [packsI]
  rw [q]
  unfold order_Get.f
  refine Ev.bind (get_pack b5 (by simp only [List.length_append]; omega) i0 (by omega) (by omega)) ?_
  refine Ev.bind (get_pack b4 (by simp only [List.length_append]; omega) i1 (by omega) (by omega)) ?_
  refine Ev.bind (get_pack b3 (by simp only [List.length_append]; omega) i2 (by omega) (by omega)) ?_
  refine Ev.bind (get_pack b2 (by simp only [List.length_append]; omega) i3 (by omega) (by omega)) ?_
  refine Ev.bind (get_pack b1 (by simp only [List.length_append]; omega) i4 (by omega) (by omega)) ?_
  refine Ev.bind (get_pack hr (by omega) i5 (by omega) (by omega)) ?_
  simp only [show a % 256 = a by omega, show v % 256 = v by omega]
  exact Ev.now _
theorem right_f {a b c d e v : Int} (h : Right a b c d e v) : notice_Right.f a b c d e v = some true := by
  unfold Right at h
  unfold notice_Right.f order_Key.f
  rw [if_pos (by omega), if_pos (by omega), if_pos (by omega), if_pos (by omega), if_pos (by omega), if_pos (by omega), if_pos (by omega), if_pos (by omega), if_pos (by omega), if_pos (by omega)]
  simp; omega
theorem encode_ev {a b c d e v : Int} (h : Right a b c d e v) : Ev (fun k => notice_Encode.f k a b c d e v) (closeI 0 0 (packsI [a, b, c, d, e, v])) := by
  have hl := packsI_len h.i64
  simp only [List.length_cons, List.length_nil] at hl
  unfold notice_Encode.f
  rw [new_f]
  refine Ev.bind (Ev.now _) (Ev.bind (nput_ev h) ?_)
  rw [show pack_Box_Done.f (packsI [a, b, c, d, e, v], (0 : Int)).1 (packsI [a, b, c, d, e, v], (0 : Int)).2 = some (packsI [a, b, c, d, e, v], packsI [a, b, c, d, e, v], 0) from done_f (packsI [a, b, c, d, e, v]) 0 (by omega)]
  refine Ev.bind (Ev.now _) (Ev.bind (a := closeI 0 0 (packsI [a, b, c, d, e, v])) ⟨300, fun k hk => close_f (packsI_byt _) (by omega) 0 0 k (by omega)⟩ (Ev.now _))
theorem decode_ev {a b c d e v : Int} (h : Right a b c d e v) : Ev (fun k => notice_Decode.f k (closeI 0 0 (packsI [a, b, c, d, e, v]))) (a, b, c, d, e, v, 0) := by
  have hl := packsI_len h.i64
  simp only [List.length_cons, List.length_nil] at hl
  unfold notice_Decode.f
  have ho : openI 0 0 (closeI 0 0 (packsI [a, b, c, d, e, v])) = (packsI [a, b, c, d, e, v], 16 + ((packsI [a, b, c, d, e, v]).length : Int), 0) := by
    have := open_close (a := 0) (b := 0) (p := packsI [a, b, c, d, e, v]) [] (by omega) (by omega) (by omega) (by omega) (by omega)
    rwa [List.append_nil] at this
  refine Ev.bind (a := openI 0 0 (closeI 0 0 (packsI [a, b, c, d, e, v]))) ⟨400, fun k hk => open_f (closeI_bytes (packsI_byt _)) (by rw [closeI_length]; omega) 0 0 k (by rw [closeI_length]; omega)⟩ ?_
  rw [ho]
  have en : (16 + ((packsI [a, b, c, d, e, v]).length : Int) != ((closeI 0 0 (packsI [a, b, c, d, e, v])).length : Int)) = false := by
    rw [closeI_length]; simp
  simp only [if_true, en]
  refine Ev.step (f := fun k => _) (fun k => by unfold notice_Decode.j0; rfl) ?_
  simp only [Bool.false_eq_true, if_false, of_f _ (show (packsI [a, b, c, d, e, v]).length < 140737488355328 by omega), Option.bind_some]
  have hg := nget_ev h (r := []) (by intro x hx; simp at hx) (by simp)
  rw [List.append_nil] at hg
  refine Ev.bind hg ?_
  simp only [end_f, Option.bind_some, if_true, List.length_nil, right_f h]
  exact Ev.now _
/-! ### what is read of any bytes -/
theorem zz_unzz (u : Nat) : zz (unzz u) = u := by
  unfold zz unzz
  by_cases h : u % 2 = 0
  · rw [if_pos h, if_neg (by omega)]; omega
  · rw [if_neg h, if_pos (by omega)]; omega
theorem parse_canon : ∀ (l : List Int) (i u U n : Nat), Byt l → i ≤ 10 → parse i u l = (0, U, n) → ∃ v m : Nat, U = u + v * 64 ^ i ∧ n = i + m ∧ l = enc v ++ l.drop m ∧ (i > 0 → v > 0) := by
  intro l
  induction l with
  | nil => intro i u U n _ _ h; simp [parse] at h
  | cons c cs ih =>
    intro i u U n hb hi h
    have hc := hb c (by simp)
    unfold parse at h
    by_cases h1 : c ≥ 128 ∨ (i = 10 ∧ c ≥ 16) ∨ (i > 0 ∧ c = 0)
    · rw [if_pos h1] at h; simp at h
    · rw [if_neg h1] at h
      by_cases h2 : c ≥ 64
      · rw [if_pos h2] at h
        have hi10 : i + 1 ≤ 10 := by omega
        obtain ⟨v, m, e1, e2, e3, e4⟩ := ih (i + 1) _ U n (fun x hx => hb x (by simp [hx])) hi10 h
        have hv := e4 (by omega)
        refine ⟨(c % 64).toNat + 64 * v, m + 1, ?_, by omega, ?_, fun _ => by omega⟩
        · rw [e1, Nat.pow_succ, Nat.add_mul]
          rw [show 64 * v * 64 ^ i = v * (64 ^ i * 64) by rw [Nat.mul_comm (64 ^ i) 64, ← Nat.mul_assoc, Nat.mul_comm v 64]]
          omega
        · rw [enc_ge (by omega)]
          have g1 : ((((c % 64).toNat + 64 * v) % 64 + 64 : Nat) : Int) = c := by omega
          have g2 : ((c % 64).toNat + 64 * v) / 64 = v := by omega
          rw [g1, g2]
          show c :: cs = c :: (enc v ++ cs.drop m)
          rw [← e3]
      · rw [if_neg h2] at h
        injection h with _ h
        injection h with hU hn
        refine ⟨c.toNat, 1, ?_, by omega, ?_, fun h => by omega⟩
        · rw [← hU, show (c % 64).toNat = c.toNat by omega]
        · rw [enc_lt (by omega)]
          show c :: cs = ((c.toNat : Nat) : Int) :: cs
          rw [show ((c.toNat : Nat) : Int) = c by omega]
theorem getI_inv {p r : List Int} {least most v : Int} (hp : Byt p) (h : getI p 0 least most = (v, r, 0)) : p = packI v ++ r ∧ least ≤ v ∧ v ≤ most := by
  unfold getI at h
  rw [if_neg (by simp)] at h
  rcases hq : parse 0 0 p with ⟨f, u, n⟩
  rw [hq] at h
  simp only at h
  by_cases hf : f ≠ 0
  · rw [if_pos hf] at h
    injection h with _ h
    injection h with _ h
    exact absurd h hf
  · rw [if_neg hf] at h
    have hf0 : f = 0 := by omega
    subst hf0
    by_cases hb : unzz u < least ∨ unzz u > most
    · rw [if_pos hb] at h
      injection h with _ h
      injection h with _ h
      exact absurd h (by decide)
    · rw [if_neg hb] at h
      injection h with h1 h2
      injection h2 with h2 _
      obtain ⟨w, m, e1, e2, e3, _⟩ := parse_canon p 0 0 u n hp (by omega) hq
      have hw : u = w := by simpa using e1
      have hm : n = m := by simpa using e2
      subst hw hm
      refine ⟨?_, by omega, by omega⟩
      rw [← h1, ← h2]
      unfold packI
      rw [zz_unzz]
      exact e3
theorem getI_bad (p : List Int) (e least most : Int) (h : e ≠ 0) : getI p e least most = (0, p, e) := by unfold getI; rw [if_pos h]
theorem getI_byt {p : List Int} {e least most : Int} (hp : Byt p) : Byt (getI p e least most).2.1 := by
  unfold getI
  split
  · exact hp
  · rcases hq : parse 0 0 p with ⟨f, u, n⟩
    simp only
    split
    · exact hp
    · split
      · exact hp
      · exact hp.drop _
theorem getI_len {p : List Int} {e least most : Int} : (getI p e least most).2.1.length ≤ p.length := by
  unfold getI
  split
  · exact Nat.le_refl _
  · rcases hq : parse 0 0 p with ⟨f, u, n⟩
    simp only
    split
    · exact Nat.le_refl _
    · split
      · exact Nat.le_refl _
      · rw [List.length_drop]; omega
/-- A number that was read without a fault, of a box that had none. -/
theorem getI_ok {p : List Int} {e least most : Int} (hp : Byt p) (h : (getI p e least most).2.2 = 0) : e = 0 ∧ p = packI (getI p e least most).1 ++ (getI p e least most).2.1 ∧ least ≤ (getI p e least most).1 ∧ (getI p e least most).1 ≤ most := by
  by_cases he : e = 0
  · subst he
    exact ⟨rfl, getI_inv (v := (getI p 0 least most).1) (r := (getI p 0 least most).2.1) hp (Prod.ext rfl (Prod.ext rfl h))⟩
  · rw [getI_bad p e least most he] at h
    exact absurd h he
theorem word_read {l : List Int} (hl : Bytes l) (h : 4 ≤ l.length) : wordI (readI l) = l.take 4 := by
  obtain ⟨a, b, c, d, r, rfl⟩ := four h
  have ha := hl a (by simp)
  have hb := hl b (by simp)
  have hc := hl c (by simp)
  have hd := hl d (by simp)
  simp only [readI, wordI, List.getD_cons_zero, List.getD_cons_succ, List.take_succ_cons, List.take_zero]
  congr 1
  · omega
  · congr 1
    · omega
    · congr 1
      · omega
      · congr 1
        omega
/-- What is opened whole is what closing makes of what was under the seal. -/
theorem open_inv {a b n : Int} {l q : List Int} (hl : Bytes l) (h : openI a b l = (q, n, 0)) (hn : n = (l.length : Int)) : l = closeI a b q ∧ q.length ≤ 1048576 := by
  unfold openI at h
  by_cases h1 : (l.length : Int) < 16
  · rw [if_pos h1] at h; simp at h
  · rw [if_neg h1] at h
    have hr := readI_range hl (by omega)
    by_cases h2 : readI l > 1048576
    · rw [if_pos h2] at h; simp at h
    · rw [if_neg h2] at h
      by_cases h3 : (l.length : Int) < 16 + readI l
      · rw [if_pos h3] at h; simp at h
      · rw [if_neg h3] at h
        by_cases h4 : readI (l.drop 12) = sumI (l.take 12 ++ bodyI l)
        · rw [if_pos h4] at h
          by_cases h5 : readI (l.drop 4) = a
          · rw [if_pos h5] at h
            by_cases h6 : readI (l.drop 8) = b
            · rw [if_pos h6] at h
              injection h with hq h
              injection h with hn' _
              have hlen : (16 + readI l) = (l.length : Int) := by omega
              have hbody : bodyI l = l.drop 16 := by
                unfold bodyI
                rw [hlen, List.take_of_length_le (by simp)]
              rw [hbody] at hq h4
              have hql : q.length = l.length - 16 := by rw [← hq, List.length_drop]
              refine ⟨?_, by omega⟩
              have t0 := word_read hl (by omega)
              have t1 := word_read (hl.drop 4) (by rw [List.length_drop]; omega)
              have t2 := word_read (hl.drop 8) (by rw [List.length_drop]; omega)
              have t3 := word_read (hl.drop 12) (by rw [List.length_drop]; omega)
              rw [h5] at t1
              rw [h6] at t2
              rw [show readI l = (q.length : Int) by omega] at t0
              have hh : headI a b (q.length : Int) = l.take 12 := by
                unfold headI
                rw [t0, t1, t2]
                rw [show (12 : Nat) = 4 + (4 + 4) by rfl, List.take_add, List.take_add, List.drop_drop, List.append_assoc]
              unfold closeI
              rw [hh, ← hq, ← h4, t3, hq]
              conv => lhs; rw [← List.take_append_drop 12 l, ← List.take_append_drop 4 (l.drop 12), List.drop_drop]
              rw [← hq, List.append_assoc]
            · rw [if_neg h6] at h; simp at h
          · rw [if_neg h5] at h; simp at h
        · rw [if_neg h4] at h; simp at h
theorem open_body {a b n : Int} {l q : List Int} (hl : Bytes l) (h : openI a b l = (q, n, 0)) : Bytes q ∧ q.length ≤ l.length := by
  unfold openI at h
  repeat' (split at h)
  all_goals first
    | (injection h with hq h; subst hq; exact ⟨(hl.take _).drop _, by unfold bodyI; rw [List.length_drop, List.length_take]; omega⟩)
    | (simp at h; done)
    | (injection h with hq h; injection h with _ h; exact absurd h (by decide))
theorem order_get_ev {q : List Int} (hq : Byt q) (hm : q.length ≤ 100000) : ∃ a b c d e v r f, Ev (fun k => order_Get.f k q 0) (a, b, c, d, e, v, r, f) ∧ (f = 0 → Right a b c d e v ∧ q = packsI [a, b, c, d, e, v] ++ r) := by
  obtain ⟨x0, g0⟩ : ∃ x, x = getI q 0 1 5 := ⟨_, rfl⟩
  obtain ⟨x1, g1⟩ : ∃ x, x = getI x0.2.1 x0.2.2 0 31 := ⟨_, rfl⟩
  obtain ⟨x2, g2⟩ : ∃ x, x = getI x1.2.1 x1.2.2 0 3652058 := ⟨_, rfl⟩
  obtain ⟨x3, g3⟩ : ∃ x, x = getI x2.2.1 x2.2.2 0 100 := ⟨_, rfl⟩
  obtain ⟨x4, g4⟩ : ∃ x, x = getI x3.2.1 x3.2.2 0 1125899906842624 := ⟨_, rfl⟩
  obtain ⟨x5, g5⟩ : ∃ x, x = getI x4.2.1 x4.2.2 0 3 := ⟨_, rfl⟩
  have b0 : Byt x0.2.1 := by rw [g0]; exact getI_byt hq
  have b1 : Byt x1.2.1 := by rw [g1]; exact getI_byt b0
  have b2 : Byt x2.2.1 := by rw [g2]; exact getI_byt b1
  have b3 : Byt x3.2.1 := by rw [g3]; exact getI_byt b2
  have b4 : Byt x4.2.1 := by rw [g4]; exact getI_byt b3
  have l0 : x0.2.1.length ≤ q.length := by rw [g0]; exact getI_len
  have l1 : x1.2.1.length ≤ x0.2.1.length := by rw [g1]; exact getI_len
  have l2 : x2.2.1.length ≤ x1.2.1.length := by rw [g2]; exact getI_len
  have l3 : x3.2.1.length ≤ x2.2.1.length := by rw [g3]; exact getI_len
  have l4 : x4.2.1.length ≤ x3.2.1.length := by rw [g4]; exact getI_len
  have v0 := get_ev hq (by omega) 0 1 5
  have v1 := get_ev b0 (by omega) x0.2.2 0 31
  have v2 := get_ev b1 (by omega) x1.2.2 0 3652058
  have v3 := get_ev b2 (by omega) x2.2.2 0 100
  have v4 := get_ev b3 (by omega) x3.2.2 0 1125899906842624
  have v5 := get_ev b4 (by omega) x4.2.2 0 3
  rw [← g0] at v0
  rw [← g1] at v1
  rw [← g2] at v2
  rw [← g3] at v3
  rw [← g4] at v4
  rw [← g5] at v5
  refine ⟨x0.1 % 256, x1.1, x2.1, x3.1, x4.1, x5.1 % 256, x5.2.1, x5.2.2, ?_, fun hf => ?_⟩
  · unfold order_Get.f
    exact Ev.bind v0 (Ev.bind v1 (Ev.bind v2 (Ev.bind v3 (Ev.bind v4 (Ev.bind v5 (Ev.now _))))))
  · rw [g5] at hf
    obtain ⟨f4, p5, r5, s5⟩ := getI_ok b4 hf
    rw [← g5] at p5 r5 s5
    rw [g4] at f4
    obtain ⟨f3, p4, r4, s4⟩ := getI_ok b3 f4
    rw [← g4] at p4 r4 s4
    rw [g3] at f3
    obtain ⟨f2, p3, r3, s3⟩ := getI_ok b2 f3
    rw [← g3] at p3 r3 s3
    rw [g2] at f2
    obtain ⟨f1, p2, r2, s2⟩ := getI_ok b1 f2
    rw [← g2] at p2 r2 s2
    rw [g1] at f1
    obtain ⟨f0, p1, r1, s1⟩ := getI_ok b0 f1
    rw [← g1] at p1 r1 s1
    rw [g0] at f0
    obtain ⟨_, p0, r0, s0⟩ := getI_ok hq f0
    rw [← g0] at p0 r0 s0
    rw [show x0.1 % 256 = x0.1 by omega, show x5.1 % 256 = x5.1 by omega]
    refine ⟨⟨⟨r0, s0⟩, ⟨r1, s1⟩, ⟨r2, s2⟩, ⟨r3, s3⟩, ⟨r4, s4⟩, ⟨r5, s5⟩⟩, ?_⟩
    rw [p0, p1, p2, p3, p4, p5]
    simp [packsI]
/-- Any bytes: they are no notice's, or just those of the notice that they are read as. -/
theorem decode_any {l : List Int} (hl : Bytes l) (hm : l.length ≤ 10000) : Ev (fun k => notice_Decode.f k l) (0, 0, 0, 0, 0, 0, 4) ∨ ∃ a b c d e v, Right a b c d e v ∧ l = closeI 0 0 (packsI [a, b, c, d, e, v]) := by
  rcases ho : openI 0 0 l with ⟨q, n, e⟩
  have hopen : Ev (fun k => seal_Open.f k 0 0 l) (q, n, e) := ⟨l.length + 21, fun k hk => by rw [← ho]; exact open_f hl (by omega) 0 0 k (by omega)⟩
  have hbad : ∀ b : Bool, b = true → Ev (fun k => notice_Decode.j0 k q b) (0, 0, 0, 0, 0, 0, 4) := fun b hb => ⟨1, fun k hk => by
    obtain ⟨k, rfl⟩ : ∃ m, k = m + 1 := ⟨k - 1, by omega⟩
    simp only [notice_Decode.j0]
    rw [if_pos hb]⟩
  by_cases he : e = 0
  · subst he
    by_cases hn : n = (l.length : Int)
    · obtain ⟨hq, hql⟩ := open_body hl ho
      obtain ⟨a, b, c, d, e, v, r, f, hg, hr⟩ := order_get_ev (q := q) hq (by omega)
      by_cases hf : f = 0 ∧ r = []
      · obtain ⟨rfl, rfl⟩ := hf
        obtain ⟨h1, h2⟩ := hr rfl
        rw [List.append_nil] at h2
        subst h2
        exact .inr ⟨a, b, c, d, e, v, h1, (open_inv hl ho hn).1⟩
      · left
        unfold notice_Decode.f
        refine Ev.bind hopen ?_
        simp only [if_true]
        have hne : (n != (l.length : Int)) = false := by simp [hn]
        rw [hne]
        refine Ev.step (f := fun k => _) (fun k => by unfold notice_Decode.j0; rfl) ?_
        simp only [Bool.false_eq_true, if_false, of_f q (by omega), Option.bind_some]
        refine Ev.bind hg ?_
        simp only [end_f, Option.bind_some]
        have hx : ¬ ((if f = 0 then (if (r.length : Int) > 0 then (4 : Int) else 0) else f) = 0) := by
          by_cases h0 : f = 0
          · subst h0
            have : r ≠ [] := fun h => hf ⟨rfl, h⟩
            have : 0 < r.length := List.length_pos_iff.mpr this
            rw [if_pos rfl, if_pos (by omega)]; decide
          · rw [if_neg h0]; exact h0
        rw [if_neg hx]
        exact Ev.now _
    · left
      unfold notice_Decode.f
      refine Ev.bind hopen ?_
      simp only [if_true]
      exact hbad _ (by simpa using hn)
  · left
    unfold notice_Decode.f
    refine Ev.bind hopen ?_
    simp only [if_neg he]
    exact hbad _ rfl
theorem close_open {a b : Int} {q : List Int} (hq : q.length ≤ 1048576) (ha : 0 ≤ a ∧ a < 4294967296) (hb : 0 ≤ b ∧ b < 4294967296) : openI a b (closeI a b q) = (q, 16 + (q.length : Int), 0) := by
  have := open_close (a := a) (b := b) (p := q) [] hq ha.1 ha.2 hb.1 hb.2
  rwa [List.append_nil] at this
theorem notice_len {a b c d e v : Int} (h : Right a b c d e v) : (packsI [a, b, c, d, e, v]).length ≤ 66 := by
  have hl := packsI_len h.i64
  simpa using hl
theorem decode_bad {l : List Int} (hl : Bytes l) (hm : l.length ≤ 10000) (h : (openI 0 0 l).2.2 ≠ 0 ∨ (openI 0 0 l).2.1 ≠ (l.length : Int)) : Ev (fun k => notice_Decode.f k l) (0, 0, 0, 0, 0, 0, 4) := by
  rcases decode_any hl hm with h1 | ⟨a, b, c, d, e, v, hr, rfl⟩
  · exact h1
  · have hn := notice_len hr
    rw [close_open (by omega) (by omega) (by omega)] at h
    rcases h with h | h
    · exact absurd rfl h
    · exact absurd (by rw [closeI_length]; simp) h
theorem u8_xor (x t : Int) (hx0 : 0 ≤ x) (hx : x < 256) (ht0 : 0 ≤ t) (ht : t < 256) : 0 ≤ Go.bits .xor .u8 x t ∧ Go.bits .xor .u8 x t < 256 ∧ (t ≠ 0 → Go.bits .xor .u8 x t ≠ x) ∧ (t = 0 → Go.bits .xor .u8 x t = x) := by
  obtain ⟨X, rfl⟩ := Int.eq_ofNat_of_zero_le hx0
  obtain ⟨T, rfl⟩ := Int.eq_ofNat_of_zero_le ht0
  have hlt : X ^^^ T < 256 := Nat.xor_lt_two_pow (n := 8) (by omega) (by omega)
  have h : Go.bits .xor .u8 (X : Int) (T : Int) = ((X ^^^ T : Nat) : Int) := u8_xor_nat X T (by omega) (by omega)
  rw [h]
  refine ⟨by omega, by omega, fun hT he => ?_, fun hT => ?_⟩
  · have h2 : X ^^^ T = X ^^^ 0 := by rw [Nat.xor_zero]; omega
    have := xor_cancel h2
    omega
  · have : T = 0 := by omega
    rw [this, Nat.xor_zero]
theorem turned_ev {a b c d e v : Int} (h : Right a b c d e v) {k : Nat} (hk : k < (closeI 0 0 (packsI [a, b, c, d, e, v])).length) {t : Int} (ht : 0 ≤ t ∧ t < 256) :
    ∃ a' b' c' d' e' v' f, Ev (fun j => notice_Decode.f j ((closeI 0 0 (packsI [a, b, c, d, e, v])).set k (Go.bits .xor .u8 ((closeI 0 0 (packsI [a, b, c, d, e, v])).getD k 0) t))) (a', b', c', d', e', v', f) ∧ ((f == 0) == (t == 0)) = true := by
  have hn := notice_len h
  have hB : Bytes (closeI 0 0 (packsI [a, b, c, d, e, v])) := closeI_bytes (packsI_byt _)
  have hx := hB _ (List.getElem_mem hk)
  have hg : (closeI 0 0 (packsI [a, b, c, d, e, v])).getD k 0 = (closeI 0 0 (packsI [a, b, c, d, e, v]))[k] := by simp [List.getD_eq_getElem?_getD, hk]
  obtain ⟨u0, u1, u2, u3⟩ := u8_xor _ t hx.1 hx.2 ht.1 ht.2
  rw [hg]
  by_cases h0 : t = 0
  · refine ⟨a, b, c, d, e, v, 0, ?_, by simp [h0]⟩
    rw [u3 h0, List.set_getElem_self]
    exact decode_ev h
  · refine ⟨0, 0, 0, 0, 0, 0, 4, ?_, by simp [h0]⟩
    rw [closeI_length] at hk
    have ho := open_turned (a := 0) (b := 0) (p := packsI [a, b, c, d, e, v]) (packsI_byt _) (by omega) hk u0 u1 (u2 h0) 0 0
    refine decode_bad (fun y hy => ?_) (by rw [List.length_set, closeI_length]; omega) ?_
    · rcases List.mem_or_eq_of_mem_set hy with hy | rfl
      · exact hB y hy
      · exact ⟨u0, u1⟩
    · rw [List.length_set, closeI_length]
      rcases ho with ho | ho
      · exact .inl ho
      · right; have := ho.2; omega
theorem cut_ev {a b c d e v : Int} (h : Right a b c d e v) {m : Nat} (hm : m < (closeI 0 0 (packsI [a, b, c, d, e, v])).length) : Ev (fun j => notice_Decode.f j ((closeI 0 0 (packsI [a, b, c, d, e, v])).take m)) (0, 0, 0, 0, 0, 0, 4) := by
  have hn := notice_len h
  have hB : Bytes (closeI 0 0 (packsI [a, b, c, d, e, v])) := closeI_bytes (packsI_byt _)
  refine decode_bad (hB.take _) (by rw [List.length_take, closeI_length]; omega) (.inl ?_)
  rw [closeI_length] at hm
  rw [open_cut (by omega) hm]
  decide
theorem more_ev {a b c d e v : Int} (h : Right a b c d e v) {t : Int} (ht : 0 ≤ t ∧ t < 256) : Ev (fun j => notice_Decode.f j (closeI 0 0 (packsI [a, b, c, d, e, v]) ++ [t])) (0, 0, 0, 0, 0, 0, 4) := by
  have hn := notice_len h
  have hB : Bytes (closeI 0 0 (packsI [a, b, c, d, e, v])) := closeI_bytes (packsI_byt _)
  refine decode_bad (hB.append (fun y hy => by simp at hy; subst hy; exact ht)) (by simp only [List.length_append, closeI_length, List.length_cons, List.length_nil]; omega) (.inr ?_)
  rw [open_close (a := 0) (b := 0) (p := packsI [a, b, c, d, e, v]) [t] (by omega) (by omega) (by omega) (by omega) (by omega)]
  simp only [List.length_append, closeI_length, List.length_cons, List.length_nil]
  omega
end Go.Proofs.YtlbfmpjkdoecbaaDoor.Pure
