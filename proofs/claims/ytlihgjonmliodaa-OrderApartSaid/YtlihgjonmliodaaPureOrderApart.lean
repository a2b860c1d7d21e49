-- unlike orders have unlike bytes
import Derived.Test.YtlihgjonmliodaaPAx20
import Derived.Test.YtlihgjonmliodaaPureOrderB
namespace Go.Proofs.Ytlihgjonmliodaa.Pure
open Go.RowKit Go.Proofs.Ytlihgjonmliodaa.PA Go.Proofs.YtlihgjonmliodaaW.PrintWords Go.Proofs.YtlihgjonmliodaaW.PrintLast Go.Proofs.YtlihgjonmliodaaW.PrintMore
set_option linter.unusedSimpArgs false

theorem head_of {a b : Int} {s t : List Int} (e : packsI (a :: s) = packsI (b :: t)) (ha : I64 a) (hb : I64 b) : a = b ∧ packsI s = packsI t := by
  have := pack_apart [a] [b] (by simpa using ha) (by simpa using hb) (packsI s) (packsI t) rfl (by simpa [packsI] using e)
  exact ⟨by simpa using this.1, this.2⟩
theorem tail_of {s t : List Int} (e : packsI s = packsI t) (hs : ∀ x ∈ s, I64 x) (ht : ∀ x ∈ t, I64 x) (hl : s.length = t.length) : s = t :=
  (pack_apart s t hs ht [] [] hl (by simpa using e)).1
theorem flag_inj {g h : Bool} (e : (if g then (1 : Int) else 0) = if h then 1 else 0) : g = h := by cases g <;> cases h <;> simp_all
theorem near_apart {a0 a1 a2 a3 a4 a5 a6 a7 : Int} {a8 a9 : Bool} {b0 b1 b2 b3 b4 b5 : Int} {l : List Int} (h : Near a0 a1 a2 a3 a4 a5 a6 a7 a8 a9 b0 b1 b2 b3 b4 b5 l)
    {c0 c1 c2 c3 c4 c5 c6 c7 : Int} {c8 c9 : Bool} {d0 d1 d2 d3 d4 d5 : Int} {m : List Int} (h' : Near c0 c1 c2 c3 c4 c5 c6 c7 c8 c9 d0 d1 d2 d3 d4 d5 m) :
    packsI l = packsI m ↔ (a0 = c0 ∧ a1 = c1 ∧ a2 = c2 ∧ a3 = c3 ∧ (a4 = c4 ∧ a5 = c5 ∧ a6 = c6 ∧ a7 = c7 ∧ a8 = c8 ∧ a9 = c9) ∧ (b0 = d0 ∧ b1 = d1 ∧ b2 = d2 ∧ b3 = d3 ∧ b4 = d4 ∧ b5 = d5)) := by
  have i1 := h.i64.1
  have i2 := h'.i64.1
  constructor
  · intro e
    cases h <;> cases h' <;> (obtain ⟨hk, ht⟩ := head_of e (i1 _ (by simp)) (i2 _ (by simp))) <;> first
      | (exfalso; omega)
      | (have hl := tail_of ht (fun x hx => i1 x (List.mem_cons_of_mem _ hx)) (fun x hx => i2 x (List.mem_cons_of_mem _ hx)) rfl
         simp only [List.cons.injEq, and_true] at hl
         first
         | (obtain ⟨q0, q1, q2, q3, q4, q5⟩ := hl
            exact ⟨rfl, rfl, rfl, rfl, ⟨q0, q1, q2, q3, flag_inj q4, flag_inj q5⟩, rfl, rfl, rfl, rfl, rfl, rfl⟩)
         | exact ⟨hk, hl.1, hl.2, rfl, ⟨rfl, rfl, rfl, rfl, rfl, rfl⟩, rfl, rfl, rfl, rfl, rfl, rfl⟩
         | exact ⟨hk, hl, rfl, rfl, ⟨rfl, rfl, rfl, rfl, rfl, rfl⟩, rfl, rfl, rfl, rfl, rfl, rfl⟩
         | exact ⟨rfl, rfl, rfl, hl, ⟨rfl, rfl, rfl, rfl, rfl, rfl⟩, rfl, rfl, rfl, rfl, rfl, rfl⟩
         | exact ⟨rfl, rfl, rfl, rfl, ⟨rfl, rfl, rfl, rfl, rfl, rfl⟩, hl⟩)
  · rintro ⟨e0, e1, e2, e3, ⟨e4, e5, e6, e7, e8, e9⟩, f0, f1, f2, f3, f4, f5⟩
    cases h <;> cases h' <;> first
      | (exfalso; omega)
      | (simp only [e0, e1, e2, e3, e4, e5, e6, e7, e8, e9, f0, f1, f2, f3, f4, f5])
theorem OrderApart : paybooklaw10_OrderApart.Pure := by
  intro a0 a1 a2 a3 a4 a5 a6 a7 a8 a9 b0 b1 b2 b3 b4 b5 c0 c1 c2 c3 c4 c5 c6 c7 c8 c9 d0 d1 d2 d3 d4 d5 same h0 _ _ _ _ h5 _ _ g0 _ _ _ _ g5 k0 _ _ _ _ k5 _ _ m0 _ _ _ _ m5
  obtain ⟨x0, x1, x2, x3, x4, x5, x6, x7, x8, x9, y0, y1, y2, y3, y4, y5, l, hN, _, hf⟩ := near_f a1 a2 a3 a4 a6 a7 a8 a9 b1 b2 b3 b4 (bounds_u8 h0) (bounds_u8 h5) (bounds_u8 g0) (bounds_u8 g5)
  obtain ⟨z0, z1, z2, z3, z4, z5, z6, z7, z8, z9, w0, w1, w2, w3, w4, w5, m, hM, _, hg⟩ := near_f c1 c2 c3 c4 c6 c7 c8 c9 d1 d2 d3 d4 (bounds_u8 k0) (bounds_u8 k5) (bounds_u8 m0) (bounds_u8 m5)
  refine Ev.rounds ?_
  unfold paybooklaw10_OrderApart.f
  refine Ev.bind ⟨1, fun k hk => by obtain ⟨j, rfl⟩ : ∃ j, k = j + 1 := ⟨k - 1, by omega⟩; exact hf j⟩ (Ev.bind ⟨1, fun k hk => by obtain ⟨j, rfl⟩ : ∃ j, k = j + 1 := ⟨k - 1, by omega⟩; exact hg j⟩ ?_)
  cases same
  · simp only [Bool.false_eq_true, if_false]
    refine Ev.bind awake_ev ?_
    simp only [if_true]
    refine Ev.bind (encode_ev hN) (Ev.bind (encode_ev hM) ?_)
    have ha := near_apart hN hM
    rw [str_beq (packsI_byt _) (packsI_byt _)]
    by_cases he : packsI l = packsI m
    · obtain ⟨rfl, rfl, rfl, rfl, ⟨rfl, rfl, rfl, rfl, rfl, rfl⟩, rfl, rfl, rfl, rfl, rfl, rfl⟩ := ha.1 he
      simp only [he, decide_true, beq_self_eq_true, Bool.and_self]
      exact Ev.now _
    · have hn : (x0 == z0 && (x1 == z1 && (x2 == z2 && (x3 == z3 && ((x4 == z4 && (x5 == z5 && (x6 == z6 && (x7 == z7 && (x8 == z8 && (x9 == z9)))))) && ((y0 == w0 && (y1 == w1 && (y2 == w2 && (y3 == w3 && (y4 == w4 && (y5 == w5)))))))))))) = false := by
        cases hc : (x0 == z0 && (x1 == z1 && (x2 == z2 && (x3 == z3 && ((x4 == z4 && (x5 == z5 && (x6 == z6 && (x7 == z7 && (x8 == z8 && (x9 == z9)))))) && ((y0 == w0 && (y1 == w1 && (y2 == w2 && (y3 == w3 && (y4 == w4 && (y5 == w5)))))))))))) with
        | false => rfl
        | true => simp only [Bool.and_eq_true, beq_iff_eq] at hc; exact absurd (ha.2 hc) he
      rw [decide_eq_false he, hn]
      exact Ev.now _
  · simp only [if_true]
    refine Ev.bind awake_ev ?_
    simp only [if_true]
    refine Ev.bind (encode_ev hN) (Ev.bind (encode_ev hN) ?_)
    simp only [beq_self_eq_true]
    exact Ev.now _

end Go.Proofs.Ytlihgjonmliodaa.Pure
