/- CycleEnds: whatever is answered, a cycle comes to its end in at most 13 rounds, and asks each thing once, but for charges (four times at most). -/
import Derived.Test.YtlfaaogifplgeaaDoorPureHear
import Derived.Test.YtlfaaogifplgeaaDoorPAx19
import Derived.Test.YtlfaaogifplgeaaDoorWKept
import Derived.WalkKit
import Derived.Outline
import Derived.LoopTactic
import Derived.Deep.LoopGhost
import Derived.Deep.QuietTactic
import Derived.BigQuiet
import Derived.Deep.RegionHeld3
import Derived.Deep.DeepCutAuto
import Derived.Laws.Rows
namespace Go.Proofs.YtlfaaogifplgeaaDoor
open Go.RowKit Go.Proofs.YtlfaaogifplgeaaDoor.PA Go.Proofs.YtlfaaogifplgeaaDoorW.PrintWords Go.Proofs.YtlfaaogifplgeaaDoorW.PrintLast Go.Proofs.YtlfaaogifplgeaaDoorW.PrintMore
set_option linter.unusedVariables false
set_option linter.unusedSimpArgs false
open Go.Proofs.YtlfaaogifplgeaaDoor.Pure (asksI hearI backP stepI asks_f hear_f awake_f)

/-- A row of whole numbers that came in. -/
structure RowIn (k : IntKind) (w : World) (a : Option Addr) (len : Nat) (zs : List Int) : Prop where
  long : zs.length = len
  wf : ∀ n ∈ zs, (Lit.int k n).wf = true
  cell : ∀ i, i < len → ∃ x, a = some x ∧ w.cell? (x.add i) = some (.int k (zs.getD i 0))
theorem RowIn.at {k : IntKind} {w : World} {a : Option Addr} {len : Nat} {zs : List Int} (h : RowIn k w a len zs) {w' : World} (hb : Below w.heap.size w w') (i : Nat) (hi : i < len) : ∃ x, a = some x ∧ w'.cell? (x.add i) = some (.int k (zs.getD i 0)) := by
  obtain ⟨x, h1, h2⟩ := h.cell i hi
  refine ⟨x, h1, ?_⟩
  rw [hb.cell (World.block_lt_of_cell? w _ h2)]
  exact h2
theorem RowIn.wf_at {k : IntKind} {w : World} {a : Option Addr} {len : Nat} {zs : List Int} (h : RowIn k w a len zs) (i : Nat) (hi : i < len) : (Lit.int k (zs.getD i 0)).wf = true :=
  h.wf _ (by rw [List.getD_eq_getElem?_getD, List.getElem?_eq_getElem (by rw [h.long]; exact hi)]; exact List.getElem_mem _)
/-- Where a cycle is, how often it has asked what, and how many rounds are left to it at most (of 13). -/
def Inv (g : Bool) (ph tr a1 a2 a3 a4 a5 i : Int) : Prop :=
  0 ≤ a1 ∧ a1 ≤ 4 ∧ 0 ≤ a2 ∧ a2 ≤ 1 ∧ 0 ≤ a3 ∧ a3 ≤ 1 ∧ 0 ≤ a4 ∧ a4 ≤ 1 ∧ 0 ≤ a5 ∧ a5 ≤ 1 ∧ 0 ≤ i ∧ (g = false → a3 = 0 ∧ a4 = 0 ∧ a5 = 0 ∧ ph ≠ 3 ∧ ph ≠ 4 ∧ ph ≠ 5) ∧
  ((ph = 1 ∧ 1 ≤ tr ∧ tr ≤ 4 ∧ a1 = tr - 1 ∧ a2 = 0 ∧ a3 = 0 ∧ a4 = 0 ∧ a5 = 0 ∧ i + 5 + 2 * (4 - tr) ≤ 13) ∨
   (ph = 2 ∧ 1 ≤ tr ∧ tr ≤ 3 ∧ a1 = tr ∧ a2 = 0 ∧ a3 = 0 ∧ a4 = 0 ∧ a5 = 0 ∧ i + 4 + 2 * (4 - tr) ≤ 13) ∨
   (ph = 3 ∧ a2 = 0 ∧ a3 = 0 ∧ a4 = 0 ∧ a5 = 0 ∧ i + 4 ≤ 13) ∨ (ph = 4 ∧ a2 = 0 ∧ a4 = 0 ∧ a5 = 0 ∧ i + 3 ≤ 13) ∨ (ph = 5 ∧ a2 = 0 ∧ a4 = 0 ∧ i + 2 ≤ 13) ∨ (ph = 6 ∧ a2 = 0 ∧ i + 1 ≤ 13) ∨ (7 ≤ ph ∧ ph ≤ 9 ∧ i ≤ 13))
def on (q j : Int) : Int := if q = j then 1 else 0
theorem next_of {g over : Bool} {am ph tr nx v x : Int} (hv : v = 1 ∨ v = 2 ∨ v = 3) (hx : x = (hearI ph am tr nx v 1 over g).1) :
    (ph = 1 → x = 9 ∨ x = 6 ∨ (x = 3 ∧ g = true) ∨ x = 7 ∨ x = 8 ∨ (x = 2 ∧ tr < 4)) ∧ (ph = 3 → x = 5 ∨ x = 4 ∨ x = 9 ∨ x = 6) ∧ (ph = 4 → x = 7 ∨ x = 5) ∧ (ph = 5 → x = 9 ∨ x = 6) ∧ (ph = 6 → x = 9) := by
  have hb : backP am = 9 ∨ backP am = 6 := by unfold backP; split <;> simp
  refine ⟨?_, ?_, ?_, ?_, ?_⟩ <;> rintro rfl
  · rcases hv with rfl | rfl | rfl <;> cases over <;> cases g <;> simp [hearI] at hx <;> (try split at hx) <;> (try simp at hx) <;> (try simp) <;> omega
  · rcases hv with rfl | rfl | rfl <;> cases over <;> simp [hearI] at hx <;> omega
  · rcases hv with rfl | rfl | rfl <;> simp [hearI] at hx <;> omega
  · rcases hv with rfl | rfl | rfl <;> simp [hearI] at hx <;> omega
  · rcases hv with rfl | rfl | rfl <;> simp [hearI] at hx <;> omega
set_option maxHeartbeats 2000000 in
theorem inv_step {g over : Bool} {am ph tr nx v a1 a2 a3 a4 a5 i : Int} (h : Inv g ph tr a1 a2 a3 a4 a5 i) (hp : ph ≤ 6) (h2 : ph ≠ 2) (hv : 1 ≤ v ∧ v ≤ 3) :
    Inv g (hearI ph am tr nx v 1 over g).1 tr (a1 + on ph 1) (a2 + on ph 6) (a3 + on ph 3) (a4 + on ph 5) (a5 + on ph 4) (i + 1) := by
  have hv' : v = 1 ∨ v = 2 ∨ v = 3 := by omega
  obtain ⟨x, hx⟩ : ∃ x, x = (hearI ph am tr nx v 1 over g).1 := ⟨_, rfl⟩
  obtain ⟨n1, n3, n4, n5, n6⟩ := next_of hv' hx
  rw [← hx]
  clear hx
  obtain ⟨b1, b2, b3, b4, b5, b6, b7, b8, b9, b10, b11, hg0, h⟩ := h
  have hg := Aside0.mk hg0
  clear hg0
  unfold Inv
  rcases h with ⟨rfl, h⟩ | h | ⟨rfl, h⟩ | ⟨rfl, h⟩ | ⟨rfl, h⟩ | ⟨rfl, h⟩ | h
  · clear n3 n4 n5 n6
    simp only [on, if_true, show ¬ ((1 : Int) = 6) by decide, show ¬ ((1 : Int) = 3) by decide, show ¬ ((1 : Int) = 5) by decide, show ¬ ((1 : Int) = 4) by decide, if_false]
    have m := n1 rfl
    clear n1 hv hv'
    rcases m with rfl | rfl | ⟨rfl, rfl⟩ | rfl | rfl | ⟨rfl, h4⟩
    · refine ⟨?_, ?_, ?_, ?_, ?_, ?_, ?_, ?_, ?_, ?_, ?_, ?_, ?_⟩
      rotate_left 11
      · exact (fun e => by have := hg.out e; omega)
      · exact .inr (.inr (.inr (.inr (.inr (.inr (by omega))))))
      all_goals omega
    · refine ⟨?_, ?_, ?_, ?_, ?_, ?_, ?_, ?_, ?_, ?_, ?_, ?_, ?_⟩
      rotate_left 11
      · exact (fun e => by have := hg.out e; omega)
      · exact .inr (.inr (.inr (.inr (.inr (.inl (by omega))))))
      all_goals omega
    · refine ⟨?_, ?_, ?_, ?_, ?_, ?_, ?_, ?_, ?_, ?_, ?_, ?_, ?_⟩
      rotate_left 11
      · exact (fun e => by cases e)
      · exact .inr (.inr (.inl (by omega)))
      all_goals omega
    · refine ⟨?_, ?_, ?_, ?_, ?_, ?_, ?_, ?_, ?_, ?_, ?_, ?_, ?_⟩
      rotate_left 11
      · exact (fun e => by have := hg.out e; omega)
      · exact .inr (.inr (.inr (.inr (.inr (.inr (by omega))))))
      all_goals omega
    · refine ⟨?_, ?_, ?_, ?_, ?_, ?_, ?_, ?_, ?_, ?_, ?_, ?_, ?_⟩
      rotate_left 11
      · exact (fun e => by have := hg.out e; omega)
      · exact .inr (.inr (.inr (.inr (.inr (.inr (by omega))))))
      all_goals omega
    · refine ⟨?_, ?_, ?_, ?_, ?_, ?_, ?_, ?_, ?_, ?_, ?_, ?_, ?_⟩
      rotate_left 11
      · exact (fun e => by have := hg.out e; omega)
      · exact .inr (.inl (by omega))
      all_goals omega
  · exact absurd h.1 h2
  · clear n1 n4 n5 n6
    simp only [on, if_true, show ¬ ((3 : Int) = 6) by decide, show ¬ ((3 : Int) = 1) by decide, show ¬ ((3 : Int) = 5) by decide, show ¬ ((3 : Int) = 4) by decide, if_false]
    have hgt : g ≠ false := fun e => by have := hg.out e; omega
    have m := n3 rfl
    clear n3 hv hv'
    rcases m with rfl | rfl | rfl | rfl
    · refine ⟨?_, ?_, ?_, ?_, ?_, ?_, ?_, ?_, ?_, ?_, ?_, ?_, ?_⟩
      rotate_left 11
      · exact fun e => absurd e hgt
      · exact .inr (.inr (.inr (.inr (.inl (by omega)))))
      all_goals omega
    · refine ⟨?_, ?_, ?_, ?_, ?_, ?_, ?_, ?_, ?_, ?_, ?_, ?_, ?_⟩
      rotate_left 11
      · exact fun e => absurd e hgt
      · exact .inr (.inr (.inr (.inl (by omega))))
      all_goals omega
    · refine ⟨?_, ?_, ?_, ?_, ?_, ?_, ?_, ?_, ?_, ?_, ?_, ?_, ?_⟩
      rotate_left 11
      · exact fun e => absurd e hgt
      · exact .inr (.inr (.inr (.inr (.inr (.inr (by omega))))))
      all_goals omega
    · refine ⟨?_, ?_, ?_, ?_, ?_, ?_, ?_, ?_, ?_, ?_, ?_, ?_, ?_⟩
      rotate_left 11
      · exact fun e => absurd e hgt
      · exact .inr (.inr (.inr (.inr (.inr (.inl (by omega))))))
      all_goals omega
  · clear n1 n3 n5 n6
    simp only [on, if_true, show ¬ ((4 : Int) = 6) by decide, show ¬ ((4 : Int) = 1) by decide, show ¬ ((4 : Int) = 5) by decide, show ¬ ((4 : Int) = 3) by decide, if_false]
    have hgt : g ≠ false := fun e => by have := hg.out e; omega
    have m := n4 rfl
    clear n4 hv hv'
    rcases m with rfl | rfl
    · refine ⟨?_, ?_, ?_, ?_, ?_, ?_, ?_, ?_, ?_, ?_, ?_, ?_, ?_⟩
      rotate_left 11
      · exact fun e => absurd e hgt
      · exact .inr (.inr (.inr (.inr (.inr (.inr (by omega))))))
      all_goals omega
    · refine ⟨?_, ?_, ?_, ?_, ?_, ?_, ?_, ?_, ?_, ?_, ?_, ?_, ?_⟩
      rotate_left 11
      · exact fun e => absurd e hgt
      · exact .inr (.inr (.inr (.inr (.inl (by omega)))))
      all_goals omega
  · clear n1 n3 n4 n6
    simp only [on, if_true, show ¬ ((5 : Int) = 6) by decide, show ¬ ((5 : Int) = 1) by decide, show ¬ ((5 : Int) = 4) by decide, show ¬ ((5 : Int) = 3) by decide, if_false]
    have hgt : g ≠ false := fun e => by have := hg.out e; omega
    have m := n5 rfl
    clear n5 hv hv'
    rcases m with rfl | rfl
    · refine ⟨?_, ?_, ?_, ?_, ?_, ?_, ?_, ?_, ?_, ?_, ?_, ?_, ?_⟩
      rotate_left 11
      · exact fun e => absurd e hgt
      · exact .inr (.inr (.inr (.inr (.inr (.inr (by omega))))))
      all_goals omega
    · refine ⟨?_, ?_, ?_, ?_, ?_, ?_, ?_, ?_, ?_, ?_, ?_, ?_, ?_⟩
      rotate_left 11
      · exact fun e => absurd e hgt
      · exact .inr (.inr (.inr (.inr (.inr (.inl (by omega))))))
      all_goals omega
  · clear n1 n3 n4 n5
    simp only [on, if_true, show ¬ ((6 : Int) = 5) by decide, show ¬ ((6 : Int) = 1) by decide, show ¬ ((6 : Int) = 4) by decide, show ¬ ((6 : Int) = 3) by decide, if_false]
    obtain rfl := n6 rfl
    clear n6 hv hv'
    refine ⟨?_, ?_, ?_, ?_, ?_, ?_, ?_, ?_, ?_, ?_, ?_, ?_, ?_⟩
    rotate_left 11
    · exact (fun e => by have := hg.out e; omega)
    · exact .inr (.inr (.inr (.inr (.inr (.inr (by omega))))))
    all_goals omega
  · clear n1 n3 n4 n5 n6 hv hv'
    omega
theorem inv_card {g : Bool} {tr a1 a2 a3 a4 a5 i : Int} (h : Inv g 2 tr a1 a2 a3 a4 a5 i) : Inv g 1 (tr + 1) a1 a2 a3 a4 a5 (i + 1) ∧ 1 ≤ tr ∧ tr ≤ 3 := by
  obtain ⟨b1, b2, b3, b4, b5, b6, b7, b8, b9, b10, b11, hg0, h⟩ := h
  have hg := Aside0.mk hg0
  clear hg0
  have h2 : 1 ≤ tr ∧ tr ≤ 3 ∧ a1 = tr ∧ a2 = 0 ∧ a3 = 0 ∧ a4 = 0 ∧ a5 = 0 ∧ i + 4 + 2 * (4 - tr) ≤ 13 := by omega
  clear h
  refine ⟨⟨?_, ?_, ?_, ?_, ?_, ?_, ?_, ?_, ?_, ?_, ?_, ?_, ?_⟩, by omega, by omega⟩
  rotate_left 11
  · exact fun e => by have := hg.out e; omega
  · exact .inl (by omega)
  all_goals omega
theorem inv_lt {g : Bool} {ph tr a1 a2 a3 a4 a5 i : Int} (h : Inv g ph tr a1 a2 a3 a4 a5 i) (hp : ¬ 7 ≤ ph) : i < 13 := by
  obtain ⟨b1, b2, b3, b4, b5, b6, b7, b8, b9, b10, b11, hg, h⟩ := h
  clear hg
  omega
theorem glob_below {w w' : World} (h : Kd.C (Kd.int .i64) w (some ⟨0, 0, none⟩) 3 gl0) (hb : Below w.heap.size w w') : Kd.C (Kd.int .i64) w' (some ⟨0, 0, none⟩) 3 gl0 := Kd.C_below h hb
theorem awake_c (w : World) (h : Kd.C (Kd.int .i64) w (some ⟨0, 0, none⟩) 3 gl0) : Calls Tryd.prog 15 #[] w fun e w' => e = .returned (.bool true) ∧ Below w.heap.size w w' := paybooklaw12_awake.calls 6 true w h (awake_f 0)
theorem begin_c (am : Int) (g : Bool) (w : World) (h : 0 ≤ am) : Calls Tryd.prog 20 #[.int .i64 1, .int .i64 1, .int .i64 am, .int .i64 0, .bool g] w fun e w' => ∃ ph tr, e = .returned (.agg #[.int .i64 1, .int .i64 1, .int .u8 ph, .int .i64 am, .int .i64 0, .int .i64 tr, .int .i64 0, .bool g]) ∧ Inv g ph tr 0 0 0 0 0 0 ∧ Below w.heap.size w w' := by
  by_cases h0 : am = 0
  · subst h0
    cases g
    · exact (cycle_Begin.calls 1 1 0 0 false 1 1 7 0 0 0 0 false w (by rfl)).mono fun e w' ⟨he, hb⟩ => ⟨7, 0, he, by unfold Inv; simp, hb⟩
    · exact (cycle_Begin.calls 1 1 0 0 true 1 1 3 0 0 0 0 true w (by rfl)).mono fun e w' ⟨he, hb⟩ => ⟨3, 0, he, by unfold Inv; simp, hb⟩
  · exact (cycle_Begin.calls 1 1 am 0 g 1 1 1 am 0 1 0 g w (by unfold cycle_Begin.f; rw [if_neg h0])).mono fun e w' ⟨he, hb⟩ => ⟨1, 1, he, by unfold Inv; simp, hb⟩
theorem ended_c (ph am tr nx : Int) (g r : Bool) (w : World) (h : decide (ph ≥ 7) = r) : Calls Tryd.prog 16 #[.agg #[.int .i64 1, .int .i64 1, .int .u8 ph, .int .i64 am, .int .i64 0, .int .i64 tr, .int .i64 nx, .bool g]] w fun e w' => e = .returned (.bool r) ∧ Below w.heap.size w w' :=
  cycle_Ended.calls 1 1 ph am 0 tr nx g r w (by unfold cycle_Ended.f; rw [h])
theorem card_c (am tr nx : Int) (g : Bool) (w : World) (h : 1 ≤ tr ∧ tr ≤ 3) : Calls Tryd.prog 23 #[.agg #[.int .i64 1, .int .i64 1, .int .u8 2, .int .i64 am, .int .i64 0, .int .i64 tr, .int .i64 nx, .bool g]] w fun e w' => e = .returned (.agg #[.int .i64 1, .int .i64 1, .int .u8 1, .int .i64 am, .int .i64 0, .int .i64 (tr + 1), .int .i64 0, .bool g]) ∧ Below w.heap.size w w' :=
  cycle_Card.calls 1 1 2 am 0 tr nx g 1 1 1 am 0 (tr + 1) 0 g w (by unfold cycle_Card.f; rw [if_pos rfl, Pure.w_of (by omega) (by omega)])
theorem asks_c (ph am tr nx q0 q1 q2 q3 q4 : Int) (g : Bool) (w : World) (h : asksI 1 1 ph am tr = (q0, q1, q2, q3, q4, 0, true)) : Calls Tryd.prog 13 #[.int .i64 1, .agg #[.int .i64 1, .int .i64 1, .int .u8 ph, .int .i64 am, .int .i64 0, .int .i64 tr, .int .i64 nx, .bool g]] w fun e w' => e = .returned (.tuple #[.agg #[.int .u8 q0, .int .i64 q1, .int .i64 q2, .int .i64 q3, .int .i64 q4, .int .u8 0], .bool true]) ∧ Below w.heap.size w w' :=
  cycle_Asks.calls 1 1 1 ph am 0 tr nx g q0 q1 q2 q3 q4 0 true w (by rw [asks_f, h])
theorem hear_c (ph am tr nx q0 q1 q2 q3 q4 v : Int) (g over : Bool) (w : World) (hG : Kd.C (Kd.int .i64) w (some ⟨0, 0, none⟩) 3 gl0) (ht : ph = 1 → tr = 1 ∨ tr = 2 ∨ tr = 3 ∨ tr = 4) (h : asksI 1 1 ph am tr = (q0, q1, q2, q3, q4, 0, true)) :
    Calls Tryd.prog 18 #[.int .i64 1, .agg #[.int .i64 1, .int .i64 1, .int .u8 ph, .int .i64 am, .int .i64 0, .int .i64 tr, .int .i64 nx, .bool g], .agg #[.int .u8 q0, .int .i64 q1, .int .i64 q2, .int .i64 q3, .int .i64 q4, .int .u8 v], .int .i64 1, .bool over] w
      fun e w' => ∃ r, e = .returned (.tuple #[.agg #[.int .i64 1, .int .i64 1, .int .u8 (hearI ph am tr nx v 1 over g).1, .int .i64 am, .int .i64 0, .int .i64 tr, .int .i64 (hearI ph am tr nx v 1 over g).2.1, .bool g], .int .i64 r]) ∧ Below w.heap.size w w' := by
  have hf := hear_f 0 1 1 1 ph am 0 tr nx g v 1 over ht
  rw [h] at hf
  exact (cycle_Hear.calls (0 + 1) 1 1 1 ph am 0 tr nx g q0 q1 q2 q3 q4 v 1 over _ _ _ _ _ _ _ _ _ w hG hf).mono fun e w' ⟨he, hb⟩ => ⟨_, he, hb⟩

/-- The cycle's block, the counts' block, and what holds of them. -/
structure StE (w0 w : World) (gc ga : Nat) (g : Bool) (am ph tr nx a1 a2 a3 a4 a5 i : Int) : Prop where
  c : w.heap[gc]? = some (.cells #[.int .i64 1, .int .i64 1, .int .u8 ph, .int .i64 am, .int .i64 0, .int .i64 tr, .int .i64 nx, .bool g] 25 (0, 0))
  a : w.heap[ga]? = some (.cells #[.int .i64 0, .int .i64 a1, .int .i64 a2, .int .i64 a3, .int .i64 a4, .int .i64 a5] 49 (0, 0))
  ne : ga ≠ gc
  lo : w0.heap.size ≤ gc ∧ w0.heap.size ≤ ga
  b : Below w0.heap.size w0 w
  inv : Inv g ph tr a1 a2 a3 a4 a5 i
theorem StE.below {w0 w w' : World} {gc ga : Nat} {g : Bool} {am ph tr nx a1 a2 a3 a4 a5 i : Int} (h : StE w0 w gc ga g am ph tr nx a1 a2 a3 a4 a5 i) (hb : Below w.heap.size w w') : StE w0 w' gc ga g am ph tr nx a1 a2 a3 a4 a5 i :=
  ⟨blk_below h.c hb, blk_below h.a hb, h.ne, h.lo, h.b.trans (hb.mono h.b.size), h.inv⟩
/-- The same, with the notice's block, in the midst of a round. -/
structure StC (w0 w : World) (gc ga gn : Nat) (g : Bool) (am ph tr nx a1 a2 a3 a4 a5 q0 q3 q4 v : Int) : Prop where
  c : w.heap[gc]? = some (.cells #[.int .i64 1, .int .i64 1, .int .u8 ph, .int .i64 am, .int .i64 0, .int .i64 tr, .int .i64 nx, .bool g] 25 (0, 0))
  a : w.heap[ga]? = some (.cells #[.int .i64 0, .int .i64 a1, .int .i64 a2, .int .i64 a3, .int .i64 a4, .int .i64 a5] 49 (0, 0))
  n : w.heap[gn]? = some (.cells #[.int .u8 q0, .int .i64 1, .int .i64 1, .int .i64 q3, .int .i64 q4, .int .u8 v] 28 (0, 0))
  ne : ga ≠ gc
  lo : w0.heap.size ≤ gc ∧ w0.heap.size ≤ ga
  b : Below w0.heap.size w0 w
theorem inv_bd {g : Bool} {ph tr a1 a2 a3 a4 a5 i : Int} (h : Inv g ph tr a1 a2 a3 a4 a5 i) : 0 ≤ a1 ∧ a1 ≤ 4 ∧ 0 ≤ a2 ∧ a2 ≤ 1 ∧ 0 ≤ a3 ∧ a3 ≤ 1 ∧ 0 ≤ a4 ∧ a4 ≤ 1 ∧ 0 ≤ a5 ∧ a5 ≤ 1 := by
  obtain ⟨b1, b2, b3, b4, b5, b6, b7, b8, b9, b10, b11, hg, h⟩ := h
  exact ⟨b1, b2, b3, b4, b5, b6, b7, b8, b9, b10⟩
theorem inv_ph {g : Bool} {ph tr a1 a2 a3 a4 a5 i : Int} (h : Inv g ph tr a1 a2 a3 a4 a5 i) (hp : ¬ 7 ≤ ph) (h2 : ¬ ph = 2) : ph = 1 ∨ ph = 3 ∨ ph = 4 ∨ ph = 5 ∨ ph = 6 := by
  obtain ⟨b1, b2, b3, b4, b5, b6, b7, b8, b9, b10, b11, hg, h⟩ := h
  clear hg
  rcases h with h | h | h | h | h | h | h <;> omega
/-- The verdict is turned. -/
theorem StC.turn {w0 w W : World} {gc ga gn : Nat} {g : Bool} {am ph tr nx a1 a2 a3 a4 a5 q0 q3 q4 v v' : Int} (h : StC w0 w gc ga gn g am ph tr nx a1 a2 a3 a4 a5 q0 q3 q4 v) (hna : gn ≠ ga) (hnc : gn ≠ gc) (hnw : w0.heap.size ≤ gn) (hW : W = w.setCell ⟨gn, 5, none⟩ (.int .u8 v')) :
    StC w0 W gc ga gn g am ph tr nx a1 a2 a3 a4 a5 q0 q3 q4 v' := by
  subst hW
  exact ⟨blk_far h.c (Ne.symm hnc) _, blk_far h.a (Ne.symm hna) _, (blk_set h.n 5 _).trans rfl, h.ne, h.lo, below_set h.b hnw⟩
/-- What is to be there when the answer was heard: the cycle's block is still the elder one. -/
structure StD (w0 w : World) (gc ga : Nat) (g : Bool) (am ph tr nx ph' a1 a2 a3 a4 a5 i : Int) : Prop where
  c : w.heap[gc]? = some (.cells #[.int .i64 1, .int .i64 1, .int .u8 ph, .int .i64 am, .int .i64 0, .int .i64 tr, .int .i64 nx, .bool g] 25 (0, 0))
  a : w.heap[ga]? = some (.cells #[.int .i64 0, .int .i64 a1, .int .i64 a2, .int .i64 a3, .int .i64 a4, .int .i64 a5] 49 (0, 0))
  ne : ga ≠ gc
  lo : w0.heap.size ≤ gc ∧ w0.heap.size ≤ ga
  b : Below w0.heap.size w0 w
  inv : Inv g ph' tr a1 a2 a3 a4 a5 (i + 1)
theorem StC.leave {w0 w w' : World} {gc ga gn : Nat} {g : Bool} {am ph tr nx ph' a1 a2 a3 a4 a5 b1 b2 b3 b4 b5 c1 c2 c3 c4 c5 q0 q3 q4 v i : Int} (h : StC w0 w gc ga gn g am ph tr nx a1 a2 a3 a4 a5 q0 q3 q4 v) (_ : Inv g ph tr b1 b2 b3 b4 b5 i)
    (hI : Inv g ph' tr c1 c2 c3 c4 c5 (i + 1)) (he : c1 = a1 ∧ c2 = a2 ∧ c3 = a3 ∧ c4 = a4 ∧ c5 = a5) (hb : Below w.heap.size w w') : StD w0 w' gc ga g am ph tr nx ph' a1 a2 a3 a4 a5 i := by
  obtain ⟨rfl, rfl, rfl, rfl, rfl⟩ := he
  exact ⟨blk_below h.c hb, blk_below h.a hb, h.ne, h.lo, h.b.trans (hb.mono h.b.size), hI⟩
theorem StD.put {w0 w : World} {gc ga : Nat} {g : Bool} {am ph tr nx ph' a1 a2 a3 a4 a5 nx' : Int} {i : Nat} (h : StD w0 w gc ga g am ph tr nx ph' a1 a2 a3 a4 a5 i) :
    StE w0 ((((((((w.setCell ⟨gc, 0, none⟩ (.int .i64 1)).setCell ⟨gc, 1, none⟩ (.int .i64 1)).setCell ⟨gc, 2, none⟩ (.int .u8 ph')).setCell ⟨gc, 3, none⟩ (.int .i64 am)).setCell ⟨gc, 4, none⟩ (.int .i64 0)).setCell ⟨gc, 5, none⟩ (.int .i64 tr)).setCell ⟨gc, 6, none⟩ (.int .i64 nx')).setCell ⟨gc, 7, none⟩ (.bool g)) gc ga g am ph' tr nx' a1 a2 a3 a4 a5 ((i + 1 : Nat) : Int) :=
  ⟨bxw8 _ _ _ _ _ _ _ _ h.c,
   blk_far (blk_far (blk_far (blk_far (blk_far (blk_far (blk_far (blk_far h.a h.ne _) h.ne _) h.ne _) h.ne _) h.ne _) h.ne _) h.ne _) h.ne _, h.ne, h.lo,
   below_set (below_set (below_set (below_set (below_set (below_set (below_set (below_set h.b h.lo.1) h.lo.1) h.lo.1) h.lo.1) h.lo.1) h.lo.1) h.lo.1) h.lo.1, by simpa using h.inv⟩
theorem inv_try {g : Bool} {ph tr a1 a2 a3 a4 a5 i : Int} (h : Inv g ph tr a1 a2 a3 a4 a5 i) : ph = 1 → tr = 1 ∨ tr = 2 ∨ tr = 3 ∨ tr = 4 := by
  obtain ⟨b1, b2, b3, b4, b5, b6, b7, b8, b9, b10, b11, hg, h⟩ := h
  clear hg
  intro e
  rcases h with h | h | h | h | h | h | h <;> omega
theorem inv_g {ph tr a1 a2 a3 a4 a5 i : Int} (h : Inv false ph tr a1 a2 a3 a4 a5 i) : a3 = 0 ∧ a4 = 0 ∧ a5 = 0 := by
  obtain ⟨b1, b2, b3, b4, b5, b6, b7, b8, b9, b10, b11, hg, h⟩ := h
  exact ⟨(hg rfl).1, (hg rfl).2.1, (hg rfl).2.2.1⟩
theorem add_block (x : Addr) (n : Nat) : (x.add n).block = x.block := by unfold Addr.add; split <;> rfl
theorem StE.put8 {w0 w : World} {gc ga : Nat} {g : Bool} {am ph tr nx a1 a2 a3 a4 a5 i : Int} (h : StE w0 w gc ga g am ph tr nx a1 a2 a3 a4 a5 i) (ph' tr' nx' : Int) {i' : Int} (hI : Inv g ph' tr' a1 a2 a3 a4 a5 i') :
    StE w0 ((((((((w.setCell ⟨gc, 0, none⟩ (.int .i64 1)).setCell ⟨gc, 1, none⟩ (.int .i64 1)).setCell ⟨gc, 2, none⟩ (.int .u8 ph')).setCell ⟨gc, 3, none⟩ (.int .i64 am)).setCell ⟨gc, 4, none⟩ (.int .i64 0)).setCell ⟨gc, 5, none⟩ (.int .i64 tr')).setCell ⟨gc, 6, none⟩ (.int .i64 nx')).setCell ⟨gc, 7, none⟩ (.bool g)) gc ga g am ph' tr' nx' a1 a2 a3 a4 a5 i' :=
  ⟨bxw8 _ _ _ _ _ _ _ _ h.c,
   blk_far (blk_far (blk_far (blk_far (blk_far (blk_far (blk_far (blk_far h.a h.ne _) h.ne _) h.ne _) h.ne _) h.ne _) h.ne _) h.ne _) h.ne _, h.ne, h.lo,
   below_set (below_set (below_set (below_set (below_set (below_set (below_set (below_set h.b h.lo.1) h.lo.1) h.lo.1) h.lo.1) h.lo.1) h.lo.1) h.lo.1) h.lo.1, hI⟩

set_option maxHeartbeats 4000000 in
theorem ends_any (a : Int) (g over : Bool) (A : Option Addr) (len cap : Nat) (zs : List Int) (w : World) (ha : (Lit.int .u8 a).wf = true) (hr : RowIn .u8 w A len zs) (hG : Kd.C (Kd.int .i64) w (some ⟨0, 0, none⟩) 3 gl0) :
    Calls Tryd.prog 7 #[.int .u8 a, .bool g, .slice A len cap, .bool over] w fun e w' => e = .returned (.bool true) ∧ Below w.heap.size w w' := by
  have ha := bounds_u8 ha
  have G := Aside0.mk hG
  have HR := Aside0.mk hr
  clear hG hr
  by_cases hlen : 20 < len
  · go_enter Tryd.func7, Tryd.ntmps7
    go_wp2_with fail
    go_at_call 15
    refine (awake_c _ G.out).mono ?_
    rintro e w1 ⟨rfl, hb⟩
    have HB := Aside0.mk hb
    clear hb
    go_wp2_with fail
    go_at_call 15
    refine (awake_c _ (Kd.C_below G.out HB.out)).mono ?_
    rintro e w2 ⟨rfl, hb⟩
    have HB2 := Aside0.mk (HB.out.trans (hb.mono HB.out.size))
    clear hb HB
    go_wp2_with fail
    go_ret
    exact ⟨rfl, HB2.out⟩
  go_enter Tryd.func7, Tryd.ntmps7
  go_wp2_with fail
  go_at_call 15
  refine (awake_c _ G.out).mono ?_
  rintro e w1 ⟨rfl, hb⟩
  have HB := Aside0.mk hb
  clear hb
  go_wp2_with fail
  go_at_call 20
  refine (begin_c a g _ ha.1).mono ?_
  rintro e w2 ⟨ph, tr, rfl, hI, hb⟩
  have HB2 := Aside0.mk (HB.out.trans (hb.mono HB.out.size))
  have HI := Aside0.mk hI
  clear hb HB hI
  go_wp2_with fail
  obtain ⟨W, hW⟩ : ∃ W, W = (w2.alloc (.cells #[.int .i64 1, .int .i64 1, .int .u8 ph, .int .i64 a, .int .i64 0, .int .i64 tr, .int .i64 0, .bool g] 25)).alloc (.cells #[.int .i64 0, .int .i64 0, .int .i64 0, .int .i64 0, .int .i64 0, .int .i64 0] 49) := ⟨_, rfl⟩
  have hS : StE w W w2.heap.size (w2.heap.size + 1) g a ph tr 0 0 0 0 0 0 (0 : Nat) := ⟨by rw [hW]; exact heap_alloc2_old _ _ _, by rw [hW]; exact heap_alloc2_new _ _ _, by omega, ⟨HB2.out.size, by have := HB2.out.size; omega⟩, by rw [hW]; exact below_alloc (below_alloc HB2.out _) _, HI.out⟩
  rw [← hW]
  have HS := Aside0.mk hS
  obtain ⟨gc, hgc⟩ : ∃ gc, gc = w2.heap.size := ⟨_, rfl⟩
  obtain ⟨ga, hga⟩ : ∃ ga, ga = gc + 1 := ⟨_, rfl⟩
  rw [← hgc, ← hga] at HS
  rw [← hgc, ← hga]
  clear hS hW hgc hga HI HB2
  clear w2
  go_loopg [11, 12] 13 (fun kq v11 v12 wr => ∃ (i k : Nat) (ph tr nx a1 a2 a3 a4 a5 : Int), v11 = .int .i64 k ∧ v12 = .int .i64 i ∧ k ≤ i ∧ i ≤ 13 ∧ Aside0 (kq = 13 - i) ∧ Aside0 (StE w wr gc ga g a ph tr nx a1 a2 a3 a4 a5 i))
  case atStart => exact ⟨0, 0, ph, tr, 0, 0, 0, 0, 0, 0, rfl, rfl, Nat.le_refl _, by omega, ⟨rfl⟩, HS⟩
  case round =>
    clear HS
    obtain ⟨i, k, ph, tr, nx, a1, a2, a3, a4, a5, rfl, rfl, hki, hi13, hk, HS⟩ := hrel
    obtain ⟨c0, c1, c2, c3, c4, c5, c6, c7, f0, f1, f2, f3, f4, f5, f6, f7⟩ := bxc8 HS.out.c
    by_cases he : 7 ≤ ph
    · go_wp2_with fail
      go_at_call 16
      refine (ended_c _ _ _ _ _ true _ (by simpa using he)).mono ?_
      rintro e w3 ⟨rfl, hb⟩
      have HS3 := Aside0.mk (HS.out.below hb)
      clear hb c0 c1 c2 c3 c4 c5 c6 c7 f0 f1 f2 f3 f4 f5 f6 f7 HS
      obtain ⟨c0, c1, c2, c3, c4, c5, c6, c7, f0, f1, f2, f3, f4, f5, f6, f7⟩ := bxc8 HS3.out.c
      go_wp2_with fail
      go_at_call 16
      refine (ended_c _ _ _ _ _ true _ (by simpa using he)).mono ?_
      rintro e w4 ⟨rfl, hb⟩
      have HS4 := Aside0.mk (HS3.out.below hb)
      clear hb c0 c1 c2 c3 c4 c5 c6 c7 f0 f1 f2 f3 f4 f5 f6 f7 HS3
      obtain ⟨d0, d1, d2, d3, d4, d5, e0, e1, e2, e3, e4, e5⟩ := bxc6 HS4.out.a
      obtain ⟨l1, u1, l2, u2, l3, u3, l4, u4, l5, u5⟩ := inv_bd HS4.out.inv
      cases g
      · obtain ⟨rfl, rfl, rfl⟩ := inv_g HS4.out.inv
        go_wp2_with fail
        go_ret
        exact ⟨rfl, HS4.out.b⟩
      · go_wp2_with fail
        go_ret
        exact ⟨rfl, HS4.out.b⟩
    have hlt : i < 13 := by have := inv_lt HS.out.inv he; omega
    by_cases h2 : ph = 2
    · subst h2
      go_wp2_with fail
      go_at_call 16
      refine (ended_c 2 _ _ _ _ false _ rfl).mono ?_
      rintro e w3 ⟨rfl, hb⟩
      have HS3 := Aside0.mk (HS.out.below hb)
      clear hb c0 c1 c2 c3 c4 c5 c6 c7 f0 f1 f2 f3 f4 f5 f6 f7 HS
      obtain ⟨c0, c1, c2, c3, c4, c5, c6, c7, f0, f1, f2, f3, f4, f5, f6, f7⟩ := bxc8 HS3.out.c
      go_wp2_with fail
      go_at_call 23
      refine (card_c _ _ _ _ _ (inv_card HS3.out.inv).2).mono ?_
      rintro e w4 ⟨rfl, hb⟩
      have HS4 := Aside0.mk (HS3.out.below hb)
      clear hb c0 c1 c2 c3 c4 c5 c6 c7 f0 f1 f2 f3 f4 f5 f6 f7 HS3
      obtain ⟨c0, c1, c2, c3, c4, c5, c6, c7, f0, f1, f2, f3, f4, f5, f6, f7⟩ := bxc8 HS4.out.c
      go_wp2_with fail
      go_roundg (13 - (i + 1))
      case measure => have := hk.out; omega
      case rel => exact ⟨i + 1, k, 1, tr + 1, 0, a1, a2, a3, a4, a5, rfl, by go_num, by omega, by omega, ⟨rfl⟩, ⟨HS4.out.put8 _ _ _ (by have := (inv_card HS4.out.inv).1; simpa using this)⟩⟩
    obtain ⟨l1, u1, l2, u2, l3, u3, l4, u4, l5, u5⟩ := inv_bd HS.out.inv
    rcases inv_ph HS.out.inv he h2 with rfl | rfl | rfl | rfl | rfl
    · go_wp2_with fail
      go_at_call 16
      refine (ended_c _ _ _ _ _ false _ rfl).mono ?_
      rintro e w3 ⟨rfl, hb⟩
      have HS3 := Aside0.mk (HS.out.below hb)
      clear hb c0 c1 c2 c3 c4 c5 c6 c7 f0 f1 f2 f3 f4 f5 f6 f7 HS
      obtain ⟨c0, c1, c2, c3, c4, c5, c6, c7, f0, f1, f2, f3, f4, f5, f6, f7⟩ := bxc8 HS3.out.c
      go_wp2_with fail
      go_at_call 13
      refine (asks_c 1 a tr nx 1 1 1 tr a g _ rfl).mono ?_
      rintro e w4 ⟨rfl, hb⟩
      have HS4 := Aside0.mk (HS3.out.below hb)
      clear hb c0 c1 c2 c3 c4 c5 c6 c7 f0 f1 f2 f3 f4 f5 f6 f7 HS3
      go_upto_region 14 with (fail)
      obtain ⟨W5, hW5⟩ : ∃ W5, W5 = w4.alloc (.cells #[.int .u8 1, .int .i64 1, .int .i64 1, .int .i64 tr, .int .i64 a, .int .u8 0] 28) := ⟨_, rfl⟩
      have HN5 : W5.heap[w4.heap.size]? = some (.cells #[.int .u8 1, .int .i64 1, .int .i64 1, .int .i64 tr, .int .i64 a, .int .u8 0] 28 (0, 0)) := by rw [hW5]; exact blk_new _ _
      have HS5 := Aside0.mk (HS4.out.below (by rw [hW5]; exact below_alloc (Below.refl _ _) _ : Below w4.heap.size w4 W5))
      have hga : ga < w4.heap.size := blk_lt HS4.out.a
      have hgc : gc < w4.heap.size := blk_lt HS4.out.c
      rw [← hW5]
      obtain ⟨gn, hgn⟩ : ∃ gn, gn = w4.heap.size := ⟨_, rfl⟩
      rw [← hgn] at HN5 hga hgc ⊢
      have hna : gn ≠ ga := by omega
      have hnc : gn ≠ gc := by omega
      have hnw : w.heap.size ≤ gn := by have := HS4.out.lo; omega
      obtain ⟨d0, d1, d2, d3, d4, d5, e0, e1, e2, e3, e4, e5⟩ := bxc6 HS5.out.a
      obtain ⟨n0, n1, n2, n3, n4, n5, m0, m1, m2, m3, m4, m5⟩ := bxc6 HN5
      have HN := Aside0.mk HN5
      clear hW5 hgn HS4 hga hgc HN5
      clear w4
      go_upto_region 16 with (fail)
      obtain ⟨W6, hW6⟩ : ∃ W6, W6 = (W5.setCell ⟨ga, 1, none⟩ (.int .i64 (a1 + 1))).setCell ⟨gn, 5, none⟩ (.int .u8 1) := ⟨_, rfl⟩
      have HS6 := Aside0.mk (StC.mk (by rw [hW6]; exact blk_far (blk_far HS5.out.c (Ne.symm HS5.out.ne) _) (Ne.symm hnc) _) (by rw [hW6]; exact blk_far ((blk_set HS5.out.a 1 _).trans rfl) (Ne.symm hna) _) (by rw [hW6]; exact (blk_set (blk_far HN.out hna _) 5 _).trans rfl) HS5.out.ne HS5.out.lo (by rw [hW6]; exact below_set (below_set HS5.out.b HS5.out.lo.2) hnw) : StC w W6 gc ga gn g a 1 tr nx (a1 + 1) a2 a3 a4 a5 1 tr a 1)
      have HI := Aside0.mk HS5.out.inv
      rw [← hW6]
      clear hW6 HS5 HN d0 d1 d2 d3 d4 d5 e0 e1 e2 e3 e4 e5 n0 n1 n2 n3 n4 n5 m0 m1 m2 m3 m4 m5
      clear W5
      by_cases hkl : k < len
      · obtain ⟨x, hx, hxc⟩ := HR.out.at HS6.out.b k hkl
        obtain ⟨b, hbz⟩ : ∃ b, b = zs.getD k 0 := ⟨_, rfl⟩
        have hbw := HR.out.wf_at k hkl
        rw [← hbz] at hxc hbw
        have hb0 := bounds_u8 hbw
        have hv3 : 0 ≤ b % 3 ∧ b % 3 ≤ 2 := by omega
        have hxg : x.block ≠ gn := by
          intro e
          have hl := HR.out.cell k hkl
          obtain ⟨y, hy, hyc⟩ := hl
          rw [hx] at hy
          cases hy
          have := World.block_lt_of_cell? w _ hyc
          rw [add_block] at this
          omega
        subst hx
        clear hbz hbw
        obtain ⟨n0, n1, n2, n3, n4, n5, m0, m1, m2, m3, m4, m5⟩ := bxc6 HS6.out.n
        go_upto_region 18 with (fail)
        obtain ⟨W7, hW7⟩ : ∃ W7, W7 = W6.setCell ⟨gn, 5, none⟩ (.int .u8 (1 + b % 3)) := ⟨_, rfl⟩
        have HS7 := Aside0.mk (HS6.out.turn hna hnc hnw hW7)
        rw [← hW7]
        clear hW7 HS6 hxc hxg n0 n1 n2 n3 n4 n5 m0 m1 m2 m3 m4 m5
        clear W6
        have HV : Aside0 (1 ≤ 1 + b % 3 ∧ 1 + b % 3 ≤ 3) := ⟨by omega⟩
        obtain ⟨c0, c1, c2, c3, c4, c5, c6, c7, f0, f1, f2, f3, f4, f5, f6, f7⟩ := bxc8 HS7.out.c
        obtain ⟨n0, n1, n2, n3, n4, n5, m0, m1, m2, m3, m4, m5⟩ := bxc6 HS7.out.n
        go_wp2_with fail
        go_at_call 18
        refine (hear_c 1 a tr nx 1 1 1 tr a (1 + b % 3) g over _ (Kd.C_below G.out HS7.out.b) (inv_try HI.out) rfl).mono ?_
        rintro e w8 ⟨r, rfl, hb⟩
        have HS8 := Aside0.mk (HS7.out.leave HI.out (inv_step (am := a) (nx := nx) (v := 1 + b % 3) (over := over) HI.out (by decide) (by decide) HV.out) ⟨by simp [on], by simp [on], by simp [on], by simp [on], by simp [on]⟩ hb)
        clear hb c0 c1 c2 c3 c4 c5 c6 c7 f0 f1 f2 f3 f4 f5 f6 f7 n0 n1 n2 n3 n4 n5 m0 m1 m2 m3 m4 m5 HS7 HI
        clear W7
        obtain ⟨c0, c1, c2, c3, c4, c5, c6, c7, f0, f1, f2, f3, f4, f5, f6, f7⟩ := bxc8 HS8.out.c
        go_wp2_with fail
        go_roundg (13 - (i + 1))
        case measure => have := hk.out; omega
        case rel => exact ⟨i + 1, k + 1, _, tr, _, (a1 + 1), a2, a3, a4, a5, by go_num, by go_num, by omega, by omega, ⟨rfl⟩, ⟨HS8.out.put⟩⟩
      · obtain ⟨c0, c1, c2, c3, c4, c5, c6, c7, f0, f1, f2, f3, f4, f5, f6, f7⟩ := bxc8 HS6.out.c
        obtain ⟨n0, n1, n2, n3, n4, n5, m0, m1, m2, m3, m4, m5⟩ := bxc6 HS6.out.n
        go_wp2_with fail
        go_at_call 18
        refine (hear_c 1 a tr nx 1 1 1 tr a 1 g over _ (Kd.C_below G.out HS6.out.b) (inv_try HI.out) rfl).mono ?_
        rintro e w8 ⟨r, rfl, hb⟩
        have HS8 := Aside0.mk (HS6.out.leave HI.out (inv_step (am := a) (nx := nx) (v := 1) (over := over) HI.out (by decide) (by decide) ⟨by decide, by decide⟩) ⟨by simp [on], by simp [on], by simp [on], by simp [on], by simp [on]⟩ hb)
        clear hb c0 c1 c2 c3 c4 c5 c6 c7 f0 f1 f2 f3 f4 f5 f6 f7 n0 n1 n2 n3 n4 n5 m0 m1 m2 m3 m4 m5 HS6 HI
        clear W6
        obtain ⟨c0, c1, c2, c3, c4, c5, c6, c7, f0, f1, f2, f3, f4, f5, f6, f7⟩ := bxc8 HS8.out.c
        go_wp2_with fail
        go_roundg (13 - (i + 1))
        case measure => have := hk.out; omega
        case rel => exact ⟨i + 1, k + 1, _, tr, _, (a1 + 1), a2, a3, a4, a5, by go_num, by go_num, by omega, by omega, ⟨rfl⟩, ⟨HS8.out.put⟩⟩
    · go_wp2_with fail
      go_at_call 16
      refine (ended_c _ _ _ _ _ false _ rfl).mono ?_
      rintro e w3 ⟨rfl, hb⟩
      have HS3 := Aside0.mk (HS.out.below hb)
      clear hb c0 c1 c2 c3 c4 c5 c6 c7 f0 f1 f2 f3 f4 f5 f6 f7 HS
      obtain ⟨c0, c1, c2, c3, c4, c5, c6, c7, f0, f1, f2, f3, f4, f5, f6, f7⟩ := bxc8 HS3.out.c
      go_wp2_with fail
      go_at_call 13
      refine (asks_c 3 a tr nx 3 1 1 0 0 g _ rfl).mono ?_
      rintro e w4 ⟨rfl, hb⟩
      have HS4 := Aside0.mk (HS3.out.below hb)
      clear hb c0 c1 c2 c3 c4 c5 c6 c7 f0 f1 f2 f3 f4 f5 f6 f7 HS3
      go_upto_region 14 with (fail)
      obtain ⟨W5, hW5⟩ : ∃ W5, W5 = w4.alloc (.cells #[.int .u8 3, .int .i64 1, .int .i64 1, .int .i64 0, .int .i64 0, .int .u8 0] 28) := ⟨_, rfl⟩
      have HN5 : W5.heap[w4.heap.size]? = some (.cells #[.int .u8 3, .int .i64 1, .int .i64 1, .int .i64 0, .int .i64 0, .int .u8 0] 28 (0, 0)) := by rw [hW5]; exact blk_new _ _
      have HS5 := Aside0.mk (HS4.out.below (by rw [hW5]; exact below_alloc (Below.refl _ _) _ : Below w4.heap.size w4 W5))
      have hga : ga < w4.heap.size := blk_lt HS4.out.a
      have hgc : gc < w4.heap.size := blk_lt HS4.out.c
      rw [← hW5]
      obtain ⟨gn, hgn⟩ : ∃ gn, gn = w4.heap.size := ⟨_, rfl⟩
      rw [← hgn] at HN5 hga hgc ⊢
      have hna : gn ≠ ga := by omega
      have hnc : gn ≠ gc := by omega
      have hnw : w.heap.size ≤ gn := by have := HS4.out.lo; omega
      obtain ⟨d0, d1, d2, d3, d4, d5, e0, e1, e2, e3, e4, e5⟩ := bxc6 HS5.out.a
      obtain ⟨n0, n1, n2, n3, n4, n5, m0, m1, m2, m3, m4, m5⟩ := bxc6 HN5
      have HN := Aside0.mk HN5
      clear hW5 hgn HS4 hga hgc HN5
      clear w4
      go_upto_region 16 with (fail)
      obtain ⟨W6, hW6⟩ : ∃ W6, W6 = (W5.setCell ⟨ga, 3, none⟩ (.int .i64 (a3 + 1))).setCell ⟨gn, 5, none⟩ (.int .u8 1) := ⟨_, rfl⟩
      have HS6 := Aside0.mk (StC.mk (by rw [hW6]; exact blk_far (blk_far HS5.out.c (Ne.symm HS5.out.ne) _) (Ne.symm hnc) _) (by rw [hW6]; exact blk_far ((blk_set HS5.out.a 3 _).trans rfl) (Ne.symm hna) _) (by rw [hW6]; exact (blk_set (blk_far HN.out hna _) 5 _).trans rfl) HS5.out.ne HS5.out.lo (by rw [hW6]; exact below_set (below_set HS5.out.b HS5.out.lo.2) hnw) : StC w W6 gc ga gn g a 3 tr nx a1 a2 (a3 + 1) a4 a5 3 0 0 1)
      have HI := Aside0.mk HS5.out.inv
      rw [← hW6]
      clear hW6 HS5 HN d0 d1 d2 d3 d4 d5 e0 e1 e2 e3 e4 e5 n0 n1 n2 n3 n4 n5 m0 m1 m2 m3 m4 m5
      clear W5
      by_cases hkl : k < len
      · obtain ⟨x, hx, hxc⟩ := HR.out.at HS6.out.b k hkl
        obtain ⟨b, hbz⟩ : ∃ b, b = zs.getD k 0 := ⟨_, rfl⟩
        have hbw := HR.out.wf_at k hkl
        rw [← hbz] at hxc hbw
        have hb0 := bounds_u8 hbw
        have hv3 : 0 ≤ b % 3 ∧ b % 3 ≤ 2 := by omega
        have hxg : x.block ≠ gn := by
          intro e
          have hl := HR.out.cell k hkl
          obtain ⟨y, hy, hyc⟩ := hl
          rw [hx] at hy
          cases hy
          have := World.block_lt_of_cell? w _ hyc
          rw [add_block] at this
          omega
        subst hx
        clear hbz hbw
        obtain ⟨n0, n1, n2, n3, n4, n5, m0, m1, m2, m3, m4, m5⟩ := bxc6 HS6.out.n
        go_upto_region 18 with (fail)
        obtain ⟨W7, hW7⟩ : ∃ W7, W7 = W6.setCell ⟨gn, 5, none⟩ (.int .u8 (1 + b % 3)) := ⟨_, rfl⟩
        have HS7 := Aside0.mk (HS6.out.turn hna hnc hnw hW7)
        rw [← hW7]
        clear hW7 HS6 hxc hxg n0 n1 n2 n3 n4 n5 m0 m1 m2 m3 m4 m5
        clear W6
        have HV : Aside0 (1 ≤ 1 + b % 3 ∧ 1 + b % 3 ≤ 3) := ⟨by omega⟩
        obtain ⟨c0, c1, c2, c3, c4, c5, c6, c7, f0, f1, f2, f3, f4, f5, f6, f7⟩ := bxc8 HS7.out.c
        obtain ⟨n0, n1, n2, n3, n4, n5, m0, m1, m2, m3, m4, m5⟩ := bxc6 HS7.out.n
        go_wp2_with fail
        go_at_call 18
        refine (hear_c 3 a tr nx 3 1 1 0 0 (1 + b % 3) g over _ (Kd.C_below G.out HS7.out.b) (inv_try HI.out) rfl).mono ?_
        rintro e w8 ⟨r, rfl, hb⟩
        have HS8 := Aside0.mk (HS7.out.leave HI.out (inv_step (am := a) (nx := nx) (v := 1 + b % 3) (over := over) HI.out (by decide) (by decide) HV.out) ⟨by simp [on], by simp [on], by simp [on], by simp [on], by simp [on]⟩ hb)
        clear hb c0 c1 c2 c3 c4 c5 c6 c7 f0 f1 f2 f3 f4 f5 f6 f7 n0 n1 n2 n3 n4 n5 m0 m1 m2 m3 m4 m5 HS7 HI
        clear W7
        obtain ⟨c0, c1, c2, c3, c4, c5, c6, c7, f0, f1, f2, f3, f4, f5, f6, f7⟩ := bxc8 HS8.out.c
        go_wp2_with fail
        go_roundg (13 - (i + 1))
        case measure => have := hk.out; omega
        case rel => exact ⟨i + 1, k + 1, _, tr, _, a1, a2, (a3 + 1), a4, a5, by go_num, by go_num, by omega, by omega, ⟨rfl⟩, ⟨HS8.out.put⟩⟩
      · obtain ⟨c0, c1, c2, c3, c4, c5, c6, c7, f0, f1, f2, f3, f4, f5, f6, f7⟩ := bxc8 HS6.out.c
        obtain ⟨n0, n1, n2, n3, n4, n5, m0, m1, m2, m3, m4, m5⟩ := bxc6 HS6.out.n
        go_wp2_with fail
        go_at_call 18
        refine (hear_c 3 a tr nx 3 1 1 0 0 1 g over _ (Kd.C_below G.out HS6.out.b) (inv_try HI.out) rfl).mono ?_
        rintro e w8 ⟨r, rfl, hb⟩
        have HS8 := Aside0.mk (HS6.out.leave HI.out (inv_step (am := a) (nx := nx) (v := 1) (over := over) HI.out (by decide) (by decide) ⟨by decide, by decide⟩) ⟨by simp [on], by simp [on], by simp [on], by simp [on], by simp [on]⟩ hb)
        clear hb c0 c1 c2 c3 c4 c5 c6 c7 f0 f1 f2 f3 f4 f5 f6 f7 n0 n1 n2 n3 n4 n5 m0 m1 m2 m3 m4 m5 HS6 HI
        clear W6
        obtain ⟨c0, c1, c2, c3, c4, c5, c6, c7, f0, f1, f2, f3, f4, f5, f6, f7⟩ := bxc8 HS8.out.c
        go_wp2_with fail
        go_roundg (13 - (i + 1))
        case measure => have := hk.out; omega
        case rel => exact ⟨i + 1, k + 1, _, tr, _, a1, a2, (a3 + 1), a4, a5, by go_num, by go_num, by omega, by omega, ⟨rfl⟩, ⟨HS8.out.put⟩⟩
    · go_wp2_with fail
      go_at_call 16
      refine (ended_c _ _ _ _ _ false _ rfl).mono ?_
      rintro e w3 ⟨rfl, hb⟩
      have HS3 := Aside0.mk (HS.out.below hb)
      clear hb c0 c1 c2 c3 c4 c5 c6 c7 f0 f1 f2 f3 f4 f5 f6 f7 HS
      obtain ⟨c0, c1, c2, c3, c4, c5, c6, c7, f0, f1, f2, f3, f4, f5, f6, f7⟩ := bxc8 HS3.out.c
      go_wp2_with fail
      go_at_call 13
      refine (asks_c 4 a tr nx 5 1 1 0 0 g _ rfl).mono ?_
      rintro e w4 ⟨rfl, hb⟩
      have HS4 := Aside0.mk (HS3.out.below hb)
      clear hb c0 c1 c2 c3 c4 c5 c6 c7 f0 f1 f2 f3 f4 f5 f6 f7 HS3
      go_upto_region 14 with (fail)
      obtain ⟨W5, hW5⟩ : ∃ W5, W5 = w4.alloc (.cells #[.int .u8 5, .int .i64 1, .int .i64 1, .int .i64 0, .int .i64 0, .int .u8 0] 28) := ⟨_, rfl⟩
      have HN5 : W5.heap[w4.heap.size]? = some (.cells #[.int .u8 5, .int .i64 1, .int .i64 1, .int .i64 0, .int .i64 0, .int .u8 0] 28 (0, 0)) := by rw [hW5]; exact blk_new _ _
      have HS5 := Aside0.mk (HS4.out.below (by rw [hW5]; exact below_alloc (Below.refl _ _) _ : Below w4.heap.size w4 W5))
      have hga : ga < w4.heap.size := blk_lt HS4.out.a
      have hgc : gc < w4.heap.size := blk_lt HS4.out.c
      rw [← hW5]
      obtain ⟨gn, hgn⟩ : ∃ gn, gn = w4.heap.size := ⟨_, rfl⟩
      rw [← hgn] at HN5 hga hgc ⊢
      have hna : gn ≠ ga := by omega
      have hnc : gn ≠ gc := by omega
      have hnw : w.heap.size ≤ gn := by have := HS4.out.lo; omega
      obtain ⟨d0, d1, d2, d3, d4, d5, e0, e1, e2, e3, e4, e5⟩ := bxc6 HS5.out.a
      obtain ⟨n0, n1, n2, n3, n4, n5, m0, m1, m2, m3, m4, m5⟩ := bxc6 HN5
      have HN := Aside0.mk HN5
      clear hW5 hgn HS4 hga hgc HN5
      clear w4
      go_upto_region 16 with (fail)
      obtain ⟨W6, hW6⟩ : ∃ W6, W6 = (W5.setCell ⟨ga, 5, none⟩ (.int .i64 (a5 + 1))).setCell ⟨gn, 5, none⟩ (.int .u8 1) := ⟨_, rfl⟩
      have HS6 := Aside0.mk (StC.mk (by rw [hW6]; exact blk_far (blk_far HS5.out.c (Ne.symm HS5.out.ne) _) (Ne.symm hnc) _) (by rw [hW6]; exact blk_far ((blk_set HS5.out.a 5 _).trans rfl) (Ne.symm hna) _) (by rw [hW6]; exact (blk_set (blk_far HN.out hna _) 5 _).trans rfl) HS5.out.ne HS5.out.lo (by rw [hW6]; exact below_set (below_set HS5.out.b HS5.out.lo.2) hnw) : StC w W6 gc ga gn g a 4 tr nx a1 a2 a3 a4 (a5 + 1) 5 0 0 1)
      have HI := Aside0.mk HS5.out.inv
      rw [← hW6]
      clear hW6 HS5 HN d0 d1 d2 d3 d4 d5 e0 e1 e2 e3 e4 e5 n0 n1 n2 n3 n4 n5 m0 m1 m2 m3 m4 m5
      clear W5
      by_cases hkl : k < len
      · obtain ⟨x, hx, hxc⟩ := HR.out.at HS6.out.b k hkl
        obtain ⟨b, hbz⟩ : ∃ b, b = zs.getD k 0 := ⟨_, rfl⟩
        have hbw := HR.out.wf_at k hkl
        rw [← hbz] at hxc hbw
        have hb0 := bounds_u8 hbw
        have hv3 : 0 ≤ b % 3 ∧ b % 3 ≤ 2 := by omega
        have hxg : x.block ≠ gn := by
          intro e
          have hl := HR.out.cell k hkl
          obtain ⟨y, hy, hyc⟩ := hl
          rw [hx] at hy
          cases hy
          have := World.block_lt_of_cell? w _ hyc
          rw [add_block] at this
          omega
        subst hx
        clear hbz hbw
        obtain ⟨n0, n1, n2, n3, n4, n5, m0, m1, m2, m3, m4, m5⟩ := bxc6 HS6.out.n
        go_upto_region 18 with (fail)
        obtain ⟨W7, hW7⟩ : ∃ W7, W7 = W6.setCell ⟨gn, 5, none⟩ (.int .u8 (1 + b % 3)) := ⟨_, rfl⟩
        have HS7 := Aside0.mk (HS6.out.turn hna hnc hnw hW7)
        rw [← hW7]
        clear hW7 HS6 hxc hxg n0 n1 n2 n3 n4 n5 m0 m1 m2 m3 m4 m5
        clear W6
        have HV : Aside0 (1 ≤ 1 + b % 3 ∧ 1 + b % 3 ≤ 3) := ⟨by omega⟩
        obtain ⟨c0, c1, c2, c3, c4, c5, c6, c7, f0, f1, f2, f3, f4, f5, f6, f7⟩ := bxc8 HS7.out.c
        obtain ⟨n0, n1, n2, n3, n4, n5, m0, m1, m2, m3, m4, m5⟩ := bxc6 HS7.out.n
        go_wp2_with fail
        go_at_call 18
        refine (hear_c 4 a tr nx 5 1 1 0 0 (1 + b % 3) g over _ (Kd.C_below G.out HS7.out.b) (inv_try HI.out) rfl).mono ?_
        rintro e w8 ⟨r, rfl, hb⟩
        have HS8 := Aside0.mk (HS7.out.leave HI.out (inv_step (am := a) (nx := nx) (v := 1 + b % 3) (over := over) HI.out (by decide) (by decide) HV.out) ⟨by simp [on], by simp [on], by simp [on], by simp [on], by simp [on]⟩ hb)
        clear hb c0 c1 c2 c3 c4 c5 c6 c7 f0 f1 f2 f3 f4 f5 f6 f7 n0 n1 n2 n3 n4 n5 m0 m1 m2 m3 m4 m5 HS7 HI
        clear W7
        obtain ⟨c0, c1, c2, c3, c4, c5, c6, c7, f0, f1, f2, f3, f4, f5, f6, f7⟩ := bxc8 HS8.out.c
        go_wp2_with fail
        go_roundg (13 - (i + 1))
        case measure => have := hk.out; omega
        case rel => exact ⟨i + 1, k + 1, _, tr, _, a1, a2, a3, a4, (a5 + 1), by go_num, by go_num, by omega, by omega, ⟨rfl⟩, ⟨HS8.out.put⟩⟩
      · obtain ⟨c0, c1, c2, c3, c4, c5, c6, c7, f0, f1, f2, f3, f4, f5, f6, f7⟩ := bxc8 HS6.out.c
        obtain ⟨n0, n1, n2, n3, n4, n5, m0, m1, m2, m3, m4, m5⟩ := bxc6 HS6.out.n
        go_wp2_with fail
        go_at_call 18
        refine (hear_c 4 a tr nx 5 1 1 0 0 1 g over _ (Kd.C_below G.out HS6.out.b) (inv_try HI.out) rfl).mono ?_
        rintro e w8 ⟨r, rfl, hb⟩
        have HS8 := Aside0.mk (HS6.out.leave HI.out (inv_step (am := a) (nx := nx) (v := 1) (over := over) HI.out (by decide) (by decide) ⟨by decide, by decide⟩) ⟨by simp [on], by simp [on], by simp [on], by simp [on], by simp [on]⟩ hb)
        clear hb c0 c1 c2 c3 c4 c5 c6 c7 f0 f1 f2 f3 f4 f5 f6 f7 n0 n1 n2 n3 n4 n5 m0 m1 m2 m3 m4 m5 HS6 HI
        clear W6
        obtain ⟨c0, c1, c2, c3, c4, c5, c6, c7, f0, f1, f2, f3, f4, f5, f6, f7⟩ := bxc8 HS8.out.c
        go_wp2_with fail
        go_roundg (13 - (i + 1))
        case measure => have := hk.out; omega
        case rel => exact ⟨i + 1, k + 1, _, tr, _, a1, a2, a3, a4, (a5 + 1), by go_num, by go_num, by omega, by omega, ⟨rfl⟩, ⟨HS8.out.put⟩⟩
    · go_wp2_with fail
      go_at_call 16
      refine (ended_c _ _ _ _ _ false _ rfl).mono ?_
      rintro e w3 ⟨rfl, hb⟩
      have HS3 := Aside0.mk (HS.out.below hb)
      clear hb c0 c1 c2 c3 c4 c5 c6 c7 f0 f1 f2 f3 f4 f5 f6 f7 HS
      obtain ⟨c0, c1, c2, c3, c4, c5, c6, c7, f0, f1, f2, f3, f4, f5, f6, f7⟩ := bxc8 HS3.out.c
      go_wp2_with fail
      go_at_call 13
      refine (asks_c 5 a tr nx 4 1 1 0 0 g _ rfl).mono ?_
      rintro e w4 ⟨rfl, hb⟩
      have HS4 := Aside0.mk (HS3.out.below hb)
      clear hb c0 c1 c2 c3 c4 c5 c6 c7 f0 f1 f2 f3 f4 f5 f6 f7 HS3
      go_upto_region 14 with (fail)
      obtain ⟨W5, hW5⟩ : ∃ W5, W5 = w4.alloc (.cells #[.int .u8 4, .int .i64 1, .int .i64 1, .int .i64 0, .int .i64 0, .int .u8 0] 28) := ⟨_, rfl⟩
      have HN5 : W5.heap[w4.heap.size]? = some (.cells #[.int .u8 4, .int .i64 1, .int .i64 1, .int .i64 0, .int .i64 0, .int .u8 0] 28 (0, 0)) := by rw [hW5]; exact blk_new _ _
      have HS5 := Aside0.mk (HS4.out.below (by rw [hW5]; exact below_alloc (Below.refl _ _) _ : Below w4.heap.size w4 W5))
      have hga : ga < w4.heap.size := blk_lt HS4.out.a
      have hgc : gc < w4.heap.size := blk_lt HS4.out.c
      rw [← hW5]
      obtain ⟨gn, hgn⟩ : ∃ gn, gn = w4.heap.size := ⟨_, rfl⟩
      rw [← hgn] at HN5 hga hgc ⊢
      have hna : gn ≠ ga := by omega
      have hnc : gn ≠ gc := by omega
      have hnw : w.heap.size ≤ gn := by have := HS4.out.lo; omega
      obtain ⟨d0, d1, d2, d3, d4, d5, e0, e1, e2, e3, e4, e5⟩ := bxc6 HS5.out.a
      obtain ⟨n0, n1, n2, n3, n4, n5, m0, m1, m2, m3, m4, m5⟩ := bxc6 HN5
      have HN := Aside0.mk HN5
      clear hW5 hgn HS4 hga hgc HN5
      clear w4
      go_upto_region 16 with (fail)
      obtain ⟨W6, hW6⟩ : ∃ W6, W6 = (W5.setCell ⟨ga, 4, none⟩ (.int .i64 (a4 + 1))).setCell ⟨gn, 5, none⟩ (.int .u8 1) := ⟨_, rfl⟩
      have HS6 := Aside0.mk (StC.mk (by rw [hW6]; exact blk_far (blk_far HS5.out.c (Ne.symm HS5.out.ne) _) (Ne.symm hnc) _) (by rw [hW6]; exact blk_far ((blk_set HS5.out.a 4 _).trans rfl) (Ne.symm hna) _) (by rw [hW6]; exact (blk_set (blk_far HN.out hna _) 5 _).trans rfl) HS5.out.ne HS5.out.lo (by rw [hW6]; exact below_set (below_set HS5.out.b HS5.out.lo.2) hnw) : StC w W6 gc ga gn g a 5 tr nx a1 a2 a3 (a4 + 1) a5 4 0 0 1)
      have HI := Aside0.mk HS5.out.inv
      rw [← hW6]
      clear hW6 HS5 HN d0 d1 d2 d3 d4 d5 e0 e1 e2 e3 e4 e5 n0 n1 n2 n3 n4 n5 m0 m1 m2 m3 m4 m5
      clear W5
      by_cases hkl : k < len
      · obtain ⟨x, hx, hxc⟩ := HR.out.at HS6.out.b k hkl
        obtain ⟨b, hbz⟩ : ∃ b, b = zs.getD k 0 := ⟨_, rfl⟩
        have hbw := HR.out.wf_at k hkl
        rw [← hbz] at hxc hbw
        have hb0 := bounds_u8 hbw
        have hv3 : 0 ≤ b % 3 ∧ b % 3 ≤ 2 := by omega
        have hxg : x.block ≠ gn := by
          intro e
          have hl := HR.out.cell k hkl
          obtain ⟨y, hy, hyc⟩ := hl
          rw [hx] at hy
          cases hy
          have := World.block_lt_of_cell? w _ hyc
          rw [add_block] at this
          omega
        subst hx
        clear hbz hbw
        obtain ⟨n0, n1, n2, n3, n4, n5, m0, m1, m2, m3, m4, m5⟩ := bxc6 HS6.out.n
        go_upto_region 18 with (fail)
        obtain ⟨W7, hW7⟩ : ∃ W7, W7 = W6.setCell ⟨gn, 5, none⟩ (.int .u8 (1 + b % 3)) := ⟨_, rfl⟩
        have HS7 := Aside0.mk (HS6.out.turn hna hnc hnw hW7)
        rw [← hW7]
        clear hW7 HS6 hxc hxg n0 n1 n2 n3 n4 n5 m0 m1 m2 m3 m4 m5
        clear W6
        have HV : Aside0 (1 ≤ 1 + b % 3 ∧ 1 + b % 3 ≤ 3) := ⟨by omega⟩
        obtain ⟨c0, c1, c2, c3, c4, c5, c6, c7, f0, f1, f2, f3, f4, f5, f6, f7⟩ := bxc8 HS7.out.c
        obtain ⟨n0, n1, n2, n3, n4, n5, m0, m1, m2, m3, m4, m5⟩ := bxc6 HS7.out.n
        go_wp2_with fail
        go_at_call 18
        refine (hear_c 5 a tr nx 4 1 1 0 0 (1 + b % 3) g over _ (Kd.C_below G.out HS7.out.b) (inv_try HI.out) rfl).mono ?_
        rintro e w8 ⟨r, rfl, hb⟩
        have HS8 := Aside0.mk (HS7.out.leave HI.out (inv_step (am := a) (nx := nx) (v := 1 + b % 3) (over := over) HI.out (by decide) (by decide) HV.out) ⟨by simp [on], by simp [on], by simp [on], by simp [on], by simp [on]⟩ hb)
        clear hb c0 c1 c2 c3 c4 c5 c6 c7 f0 f1 f2 f3 f4 f5 f6 f7 n0 n1 n2 n3 n4 n5 m0 m1 m2 m3 m4 m5 HS7 HI
        clear W7
        obtain ⟨c0, c1, c2, c3, c4, c5, c6, c7, f0, f1, f2, f3, f4, f5, f6, f7⟩ := bxc8 HS8.out.c
        go_wp2_with fail
        go_roundg (13 - (i + 1))
        case measure => have := hk.out; omega
        case rel => exact ⟨i + 1, k + 1, _, tr, _, a1, a2, a3, (a4 + 1), a5, by go_num, by go_num, by omega, by omega, ⟨rfl⟩, ⟨HS8.out.put⟩⟩
      · obtain ⟨c0, c1, c2, c3, c4, c5, c6, c7, f0, f1, f2, f3, f4, f5, f6, f7⟩ := bxc8 HS6.out.c
        obtain ⟨n0, n1, n2, n3, n4, n5, m0, m1, m2, m3, m4, m5⟩ := bxc6 HS6.out.n
        go_wp2_with fail
        go_at_call 18
        refine (hear_c 5 a tr nx 4 1 1 0 0 1 g over _ (Kd.C_below G.out HS6.out.b) (inv_try HI.out) rfl).mono ?_
        rintro e w8 ⟨r, rfl, hb⟩
        have HS8 := Aside0.mk (HS6.out.leave HI.out (inv_step (am := a) (nx := nx) (v := 1) (over := over) HI.out (by decide) (by decide) ⟨by decide, by decide⟩) ⟨by simp [on], by simp [on], by simp [on], by simp [on], by simp [on]⟩ hb)
        clear hb c0 c1 c2 c3 c4 c5 c6 c7 f0 f1 f2 f3 f4 f5 f6 f7 n0 n1 n2 n3 n4 n5 m0 m1 m2 m3 m4 m5 HS6 HI
        clear W6
        obtain ⟨c0, c1, c2, c3, c4, c5, c6, c7, f0, f1, f2, f3, f4, f5, f6, f7⟩ := bxc8 HS8.out.c
        go_wp2_with fail
        go_roundg (13 - (i + 1))
        case measure => have := hk.out; omega
        case rel => exact ⟨i + 1, k + 1, _, tr, _, a1, a2, a3, (a4 + 1), a5, by go_num, by go_num, by omega, by omega, ⟨rfl⟩, ⟨HS8.out.put⟩⟩
    · go_wp2_with fail
      go_at_call 16
      refine (ended_c _ _ _ _ _ false _ rfl).mono ?_
      rintro e w3 ⟨rfl, hb⟩
      have HS3 := Aside0.mk (HS.out.below hb)
      clear hb c0 c1 c2 c3 c4 c5 c6 c7 f0 f1 f2 f3 f4 f5 f6 f7 HS
      obtain ⟨c0, c1, c2, c3, c4, c5, c6, c7, f0, f1, f2, f3, f4, f5, f6, f7⟩ := bxc8 HS3.out.c
      go_wp2_with fail
      go_at_call 13
      refine (asks_c 6 a tr nx 2 1 1 0 a g _ rfl).mono ?_
      rintro e w4 ⟨rfl, hb⟩
      have HS4 := Aside0.mk (HS3.out.below hb)
      clear hb c0 c1 c2 c3 c4 c5 c6 c7 f0 f1 f2 f3 f4 f5 f6 f7 HS3
      go_upto_region 14 with (fail)
      obtain ⟨W5, hW5⟩ : ∃ W5, W5 = w4.alloc (.cells #[.int .u8 2, .int .i64 1, .int .i64 1, .int .i64 0, .int .i64 a, .int .u8 0] 28) := ⟨_, rfl⟩
      have HN5 : W5.heap[w4.heap.size]? = some (.cells #[.int .u8 2, .int .i64 1, .int .i64 1, .int .i64 0, .int .i64 a, .int .u8 0] 28 (0, 0)) := by rw [hW5]; exact blk_new _ _
      have HS5 := Aside0.mk (HS4.out.below (by rw [hW5]; exact below_alloc (Below.refl _ _) _ : Below w4.heap.size w4 W5))
      have hga : ga < w4.heap.size := blk_lt HS4.out.a
      have hgc : gc < w4.heap.size := blk_lt HS4.out.c
      rw [← hW5]
      obtain ⟨gn, hgn⟩ : ∃ gn, gn = w4.heap.size := ⟨_, rfl⟩
      rw [← hgn] at HN5 hga hgc ⊢
      have hna : gn ≠ ga := by omega
      have hnc : gn ≠ gc := by omega
      have hnw : w.heap.size ≤ gn := by have := HS4.out.lo; omega
      obtain ⟨d0, d1, d2, d3, d4, d5, e0, e1, e2, e3, e4, e5⟩ := bxc6 HS5.out.a
      obtain ⟨n0, n1, n2, n3, n4, n5, m0, m1, m2, m3, m4, m5⟩ := bxc6 HN5
      have HN := Aside0.mk HN5
      clear hW5 hgn HS4 hga hgc HN5
      clear w4
      go_upto_region 16 with (fail)
      obtain ⟨W6, hW6⟩ : ∃ W6, W6 = (W5.setCell ⟨ga, 2, none⟩ (.int .i64 (a2 + 1))).setCell ⟨gn, 5, none⟩ (.int .u8 1) := ⟨_, rfl⟩
      have HS6 := Aside0.mk (StC.mk (by rw [hW6]; exact blk_far (blk_far HS5.out.c (Ne.symm HS5.out.ne) _) (Ne.symm hnc) _) (by rw [hW6]; exact blk_far ((blk_set HS5.out.a 2 _).trans rfl) (Ne.symm hna) _) (by rw [hW6]; exact (blk_set (blk_far HN.out hna _) 5 _).trans rfl) HS5.out.ne HS5.out.lo (by rw [hW6]; exact below_set (below_set HS5.out.b HS5.out.lo.2) hnw) : StC w W6 gc ga gn g a 6 tr nx a1 (a2 + 1) a3 a4 a5 2 0 a 1)
      have HI := Aside0.mk HS5.out.inv
      rw [← hW6]
      clear hW6 HS5 HN d0 d1 d2 d3 d4 d5 e0 e1 e2 e3 e4 e5 n0 n1 n2 n3 n4 n5 m0 m1 m2 m3 m4 m5
      clear W5
      by_cases hkl : k < len
      · obtain ⟨x, hx, hxc⟩ := HR.out.at HS6.out.b k hkl
        obtain ⟨b, hbz⟩ : ∃ b, b = zs.getD k 0 := ⟨_, rfl⟩
        have hbw := HR.out.wf_at k hkl
        rw [← hbz] at hxc hbw
        have hb0 := bounds_u8 hbw
        have hv3 : 0 ≤ b % 3 ∧ b % 3 ≤ 2 := by omega
        have hxg : x.block ≠ gn := by
          intro e
          have hl := HR.out.cell k hkl
          obtain ⟨y, hy, hyc⟩ := hl
          rw [hx] at hy
          cases hy
          have := World.block_lt_of_cell? w _ hyc
          rw [add_block] at this
          omega
        subst hx
        clear hbz hbw
        obtain ⟨n0, n1, n2, n3, n4, n5, m0, m1, m2, m3, m4, m5⟩ := bxc6 HS6.out.n
        go_upto_region 18 with (fail)
        obtain ⟨W7, hW7⟩ : ∃ W7, W7 = W6.setCell ⟨gn, 5, none⟩ (.int .u8 (1 + b % 3)) := ⟨_, rfl⟩
        have HS7 := Aside0.mk (HS6.out.turn hna hnc hnw hW7)
        rw [← hW7]
        clear hW7 HS6 hxc hxg n0 n1 n2 n3 n4 n5 m0 m1 m2 m3 m4 m5
        clear W6
        have HV : Aside0 (1 ≤ 1 + b % 3 ∧ 1 + b % 3 ≤ 3) := ⟨by omega⟩
        obtain ⟨c0, c1, c2, c3, c4, c5, c6, c7, f0, f1, f2, f3, f4, f5, f6, f7⟩ := bxc8 HS7.out.c
        obtain ⟨n0, n1, n2, n3, n4, n5, m0, m1, m2, m3, m4, m5⟩ := bxc6 HS7.out.n
        go_wp2_with fail
        go_at_call 18
        refine (hear_c 6 a tr nx 2 1 1 0 a (1 + b % 3) g over _ (Kd.C_below G.out HS7.out.b) (inv_try HI.out) rfl).mono ?_
        rintro e w8 ⟨r, rfl, hb⟩
        have HS8 := Aside0.mk (HS7.out.leave HI.out (inv_step (am := a) (nx := nx) (v := 1 + b % 3) (over := over) HI.out (by decide) (by decide) HV.out) ⟨by simp [on], by simp [on], by simp [on], by simp [on], by simp [on]⟩ hb)
        clear hb c0 c1 c2 c3 c4 c5 c6 c7 f0 f1 f2 f3 f4 f5 f6 f7 n0 n1 n2 n3 n4 n5 m0 m1 m2 m3 m4 m5 HS7 HI
        clear W7
        obtain ⟨c0, c1, c2, c3, c4, c5, c6, c7, f0, f1, f2, f3, f4, f5, f6, f7⟩ := bxc8 HS8.out.c
        go_wp2_with fail
        go_roundg (13 - (i + 1))
        case measure => have := hk.out; omega
        case rel => exact ⟨i + 1, k + 1, _, tr, _, a1, (a2 + 1), a3, a4, a5, by go_num, by go_num, by omega, by omega, ⟨rfl⟩, ⟨HS8.out.put⟩⟩
      · obtain ⟨c0, c1, c2, c3, c4, c5, c6, c7, f0, f1, f2, f3, f4, f5, f6, f7⟩ := bxc8 HS6.out.c
        obtain ⟨n0, n1, n2, n3, n4, n5, m0, m1, m2, m3, m4, m5⟩ := bxc6 HS6.out.n
        go_wp2_with fail
        go_at_call 18
        refine (hear_c 6 a tr nx 2 1 1 0 a 1 g over _ (Kd.C_below G.out HS6.out.b) (inv_try HI.out) rfl).mono ?_
        rintro e w8 ⟨r, rfl, hb⟩
        have HS8 := Aside0.mk (HS6.out.leave HI.out (inv_step (am := a) (nx := nx) (v := 1) (over := over) HI.out (by decide) (by decide) ⟨by decide, by decide⟩) ⟨by simp [on], by simp [on], by simp [on], by simp [on], by simp [on]⟩ hb)
        clear hb c0 c1 c2 c3 c4 c5 c6 c7 f0 f1 f2 f3 f4 f5 f6 f7 n0 n1 n2 n3 n4 n5 m0 m1 m2 m3 m4 m5 HS6 HI
        clear W6
        obtain ⟨c0, c1, c2, c3, c4, c5, c6, c7, f0, f1, f2, f3, f4, f5, f6, f7⟩ := bxc8 HS8.out.c
        go_wp2_with fail
        go_roundg (13 - (i + 1))
        case measure => have := hk.out; omega
        case rel => exact ⟨i + 1, k + 1, _, tr, _, a1, (a2 + 1), a3, a4, a5, by go_num, by go_num, by omega, by omega, ⟨rfl⟩, ⟨HS8.out.put⟩⟩
end Go.Proofs.YtlfaaogifplgeaaDoor
