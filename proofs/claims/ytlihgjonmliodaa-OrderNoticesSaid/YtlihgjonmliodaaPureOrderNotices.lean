-- a notice in a box, and back
import Derived.Test.YtlihgjonmliodaaPAx12
import Derived.Test.YtlihgjonmliodaaPAx16
import Derived.Test.YtlihgjonmliodaaPAx22
import Derived.Test.YtlihgjonmliodaaPAx23
import Derived.Test.YtlihgjonmliodaaPAx25
import Derived.Test.YtlihgjonmliodaaPureOrderB
namespace Go.Proofs.Ytlihgjonmliodaa.Pure
open Go.RowKit Go.Proofs.Ytlihgjonmliodaa.PA Go.Proofs.YtlihgjonmliodaaW.PrintWords Go.Proofs.YtlihgjonmliodaaW.PrintLast Go.Proofs.YtlihgjonmliodaaW.PrintMore
set_option linter.unusedSimpArgs false

theorem lawkey2_f (a b c d e v : Int) : paybooklaw10_key.f a b c d e v = some (decide (keyR b c d e)) := keyR_f a b c d e v
def NoticeOk (a b c d e v : Int) : Prop := (1 ≤ a ∧ a ≤ 5) ∧ keyR b c d e ∧ (0 ≤ v ∧ v ≤ 3)
theorem NoticeOk.i64 {a b c d e v : Int} (h : NoticeOk a b c d e v) : ∀ x ∈ [a, b, c, d, e, v], I64 x := by
  intro x hx
  unfold NoticeOk keyR at h
  simp only [List.mem_cons, List.not_mem_nil, or_false] at hx
  unfold I64
  rcases hx with rfl | rfl | rfl | rfl | rfl | rfl <;> omega
theorem get_packs {n least most : Int} {r : List Int} (hr : Byt r) (hm : r.length ≤ 1000000) (h : I64 n) (h1 : least ≤ n) (h2 : n ≤ most) : Ev (fun k => pack_Box_Get.f k (packI n ++ r) 0 least most) (n, r, 0) := by
  have := get_ev (p := packI n ++ r) ((packI_byt n).append hr) (by have := packI_len h; simp only [List.length_append]; omega) 0 least most
  rwa [getI_pack h r h1 h2] at this
theorem nput_ev {a b c d e v : Int} (h : NoticeOk a b c d e v) : Ev (fun k => order_Put.f k [] 0 a b c d e v) (packsI [a, b, c, d, e, v], 0) := by
  unfold order_Put.f
  have e1 : wrap64 a = a := by unfold NoticeOk at h; unfold wrap64; omega
  have e2 : wrap64 v = v := by unfold NoticeOk at h; unfold wrap64; omega
  rw [e1, e2]
  exact Ev.bind (put_ev h.i64 [] 0 (by simp)) (Ev.now _)
theorem nget_ev {a b c d e v : Int} (h : NoticeOk a b c d e v) {r : List Int} (hr : Byt r) (hm : r.length ≤ 1000) : Ev (fun k => order_Get.f k (packsI [a, b, c, d, e, v] ++ r) 0) (a, b, c, d, e, v, r, 0) := by
  have hi := h.i64
  unfold NoticeOk keyR at h
  have b1 := (packI_byt v).append hr
  have b2 := (packI_byt e).append b1
  have b3 := (packI_byt d).append b2
  have b4 := (packI_byt c).append b3
  have b5 := (packI_byt b).append b4
  have i0 : I64 a := hi a (by simp)
  have i1 : I64 b := hi b (by simp)
  have i2 : I64 c := hi c (by simp)
  have i3 : I64 d := hi d (by simp)
  have i4 : I64 e := hi e (by simp)
  have i5 : I64 v := hi v (by simp)
  have l1 := packI_len i1
  have l2 := packI_len i2
  have l3 := packI_len i3
  have l4 := packI_len i4
  have l5 := packI_len i5
  have q : packsI [a, b, c, d, e, v] ++ r = packI a ++ (packI b ++ (packI c ++ (packI d ++ (packI e ++ (packI v ++ r))))) := by simp [packsI]
  rw [q]
  unfold order_Get.f
  refine Ev.bind (get_packs b5 (by simp only [List.length_append]; omega) i0 (by omega) (by omega)) ?_
  refine Ev.bind (get_packs b4 (by simp only [List.length_append]; omega) i1 (by omega) (by omega)) ?_
  refine Ev.bind (get_packs b3 (by simp only [List.length_append]; omega) i2 (by omega) (by omega)) ?_
  refine Ev.bind (get_packs b2 (by simp only [List.length_append]; omega) i3 (by omega) (by omega)) ?_
  refine Ev.bind (get_packs b1 (by simp only [List.length_append]; omega) i4 (by omega) (by omega)) ?_
  refine Ev.bind (get_packs hr (by omega) i5 (by omega) (by omega)) ?_
  simp only [show a % 256 = a by omega, show v % 256 = v by omega]
  exact Ev.now _
theorem getI_ok {p : List Int} (e least most : Int) (hp : Byt p) : Byt (getI p e least most).2.1 ∧ (getI p e least most).2.1.length ≤ p.length ∧ ((getI p e least most).2.2 = 0 → e = 0 ∧ least ≤ (getI p e least most).1 ∧ (getI p e least most).1 ≤ most) := by
  unfold getI
  by_cases h : e ≠ 0
  · rw [if_pos h]; exact ⟨hp, Nat.le_refl _, fun h' => absurd h' h⟩
  · rw [if_neg h]
    rcases parse 0 0 p with ⟨f, u, n⟩
    dsimp only
    by_cases hf : f ≠ 0
    · rw [if_pos hf]; exact ⟨hp, Nat.le_refl _, fun h' => absurd h' hf⟩
    · rw [if_neg hf]
      by_cases hb : unzz u < least ∨ unzz u > most
      · rw [if_pos hb]; exact ⟨hp, Nat.le_refl _, fun h' => absurd h' (by simp)⟩
      · rw [if_neg hb]; exact ⟨hp.drop n, by simp, fun _ => ⟨by omega, by omega, by omega⟩⟩
theorem gets_ev {p : List Int} (hp : Byt p) (hm : p.length ≤ 1000) : ∃ a b c d e v q f, Ev (fun k => order_Get.f k p 0) (a, b, c, d, e, v, q, f) ∧ (f = 0 → NoticeOk a b c d e v) := by
  obtain ⟨p1, l1, f1⟩ := getI_ok 0 1 5 hp
  obtain ⟨p2, l2, f2⟩ := getI_ok (getI p 0 1 5).2.2 0 31 p1
  obtain ⟨p3, l3, f3⟩ := getI_ok (getI (getI p 0 1 5).2.1 (getI p 0 1 5).2.2 0 31).2.2 0 3652058 p2
  generalize hr2 : getI (getI p 0 1 5).2.1 (getI p 0 1 5).2.2 0 31 = r2 at *
  obtain ⟨p4, l4, f4⟩ := getI_ok (getI r2.2.1 r2.2.2 0 3652058).2.2 0 100 p3
  generalize hr3 : getI r2.2.1 r2.2.2 0 3652058 = r3 at *
  obtain ⟨p5, l5, f5⟩ := getI_ok (getI r3.2.1 r3.2.2 0 100).2.2 0 1125899906842624 p4
  generalize hr4 : getI r3.2.1 r3.2.2 0 100 = r4 at *
  obtain ⟨p6, l6, f6⟩ := getI_ok (getI r4.2.1 r4.2.2 0 1125899906842624).2.2 0 3 p5
  generalize hr5 : getI r4.2.1 r4.2.2 0 1125899906842624 = r5 at *
  generalize hr6 : getI r5.2.1 r5.2.2 0 3 = r6 at *
  refine ⟨(getI p 0 1 5).1 % 256, r2.1, r3.1, r4.1, r5.1, r6.1 % 256, r6.2.1, r6.2.2, ?_, ?_⟩
  · unfold order_Get.f
    refine Ev.bind (get_ev hp (by omega) 0 1 5) ?_
    refine Ev.bind (a := r2) (by rw [← hr2]; exact get_ev p1 (by omega) _ 0 31) ?_
    refine Ev.bind (a := r3) (by rw [← hr3]; exact get_ev p2 (by omega) _ 0 3652058) ?_
    refine Ev.bind (a := r4) (by rw [← hr4]; exact get_ev p3 (by omega) _ 0 100) ?_
    refine Ev.bind (a := r5) (by rw [← hr5]; exact get_ev p4 (by omega) _ 0 1125899906842624) ?_
    refine Ev.bind (a := r6) (by rw [← hr6]; exact get_ev p5 (by omega) _ 0 3) ?_
    exact Ev.now _
  · intro hz
    have g6 := f6 hz
    have g5 := f5 g6.1
    have g4 := f4 g5.1
    have g3 := f3 g4.1
    have g2 := f2 g3.1
    have g1 := f1 g2.1
    unfold NoticeOk keyR
    omega
theorem notices_j1 {a b c d e v : Int} (h : NoticeOk a b c d e v) {l : List Int} (hl : Byt l) (hm : l.length ≤ 50) : Ev (fun k => paybooklaw10_OrderNotices.j1 k l a b c d e v) true := by
  obtain ⟨a', b', c', d', e', v', q, f, hg, hf⟩ := gets_ev hl (by omega)
  have hlen := packsI_len h.i64
  simp only [List.length_cons, List.length_nil] at hlen
  refine Ev.step (f := fun k => _) (fun k => by rw [paybooklaw10_OrderNotices.j1]) ?_
  rw [new_f]
  refine Ev.bind (Ev.now _) (Ev.bind (nput_ev h) ?_)
  dsimp only
  rw [done_f _ _ (by omega)]
  dsimp only [Option.bind_some]
  rw [of_f _ (by omega)]
  dsimp only [Option.bind_some]
  rw [of_f _ (by omega)]
  dsimp only [Option.bind_some]
  refine Ev.bind hg ?_
  simp only [fault_f, Option.bind_some]
  have hn := nget_ev h (r := []) (by intro x hx; simp at hx) (by simp)
  rw [List.append_nil] at hn
  refine Ev.bind hn ?_
  simp only [beq_self_eq_true, Bool.and_self, if_true, end_f, Option.bind_some, List.length_nil, lawkey2_f]
  by_cases hz : f = 0
  · have hk := hf hz
    have hk2 := hk
    unfold NoticeOk at hk2
    simp [hz, decide_eq_true hk2.2.1, show a' ≥ 1 by omega, show a' ≤ 5 by omega, show v' ≤ 3 by omega]
    exact Ev.now _
  · simp [hz]
    exact Ev.now _
theorem OrderNotices : paybooklaw10_OrderNotices.Pure := by
  intro a b c d e v ask l h0 _ _ _ _ h5 _ _ hb
  obtain ⟨a', b', c', d', e', v', hf, hr, _⟩ := notice_f a b c d e v (bounds_u8 h0) (bounds_u8 h5)
  have hl := byt_of hb
  refine Ev.rounds ?_
  unfold paybooklaw10_OrderNotices.f
  refine Ev.bind awake_ev ?_
  simp only [if_true]
  refine Ev.step (f := fun k => _) (fun k => by rw [paybooklaw10_OrderNotices.j0]) ?_
  by_cases hm : (l.length : Int) > 50
  · simp only [decide_eq_true hm, if_true]
    exact Ev.bind awake_ev (Ev.now _)
  · simp only [decide_eq_false hm, Bool.false_eq_true, if_false, hf, Option.bind_some]
    unfold noticeR at hr
    cases ask
    · simp only [Bool.false_eq_true, if_false]
      exact notices_j1 ⟨hr.1, hr.2.2, by omega⟩ hl (by omega)
    · simp only [if_true]
      exact notices_j1 ⟨hr.1, hr.2.2, by omega⟩ hl (by omega)

end Go.Proofs.Ytlihgjonmliodaa.Pure
