/- Plans by their numbers; as many as may be; the list ahead stays as it was. -/
import Derived.Test.YtbjelaocihjhgaaPurePlanRights
import Derived.Test.YtbjelaocihjhgaaPAx35
namespace Go.Proofs.Ytbjelaocihjhgaa.Pure
open Go.RowKit Go.Proofs.Ytbjelaocihjhgaa.PA Go.Proofs.YtbjelaocihjhgaaW.PrintWords Go.Proofs.YtbjelaocihjhgaaW.PrintLast Go.Proofs.YtbjelaocihjhgaaW.PrintMore

theorem add_f {k : Nat} {W : List S23} {p : S23} {r : Int} (hW : W.length ≤ 8) (h : plan_Right.f k p.f0 p.f1 p.f2 p.f3 p.f4 p.f5 = some r) :
    plan_List_Add.f k W p.f0 p.f1 p.f2 p.f3 p.f4 p.f5 = some (if r = 0 then (if (W.length : Int) ≥ 8 then ([], 0, 3) else (W ++ [p], (W.length : Int), 0)) else ([], 0, r)) := by
  unfold plan_List_Add.f
  rw [h]
  simp only [Option.bind_some]
  by_cases hr : r = 0
  · rw [if_pos hr, if_pos hr]
    by_cases h8 : (W.length : Int) ≥ 8
    · rw [if_pos h8, if_pos h8]
    · rw [if_neg h8, if_neg h8, if_pos (by simp; omega), if_pos (by simp; omega)]
      rfl
  · rw [if_neg hr, if_neg hr]
theorem get_f {W : List S23} {i : Nat} (h : i < W.length) : plan_List_Get.f W (i : Int) = some ((W[i]).f0, (W[i]).f1, (W[i]).f2, (W[i]).f3, (W[i]).f4, (W[i]).f5, 0) := by
  unfold plan_List_Get.f
  have : rd_T23 W (i : Int) = W[i] := by simp [rd_T23, List.getD_eq_getElem?_getD, h]
  rw [if_neg (by omega), if_neg (by omega), if_pos (by omega), if_pos (by omega), this]
theorem get_far {W : List S23} {n : Int} (h : n < 0 ∨ (W.length : Int) ≤ n) : plan_List_Get.f W n = some (0, 0, 0, 0, false, false, 2) := by
  unfold plan_List_Get.f
  by_cases h0 : n < 0
  · rw [if_pos h0]
  · rw [if_neg h0, if_pos (by omega)]
theorem wone (i : Nat) (h : i ≤ 1000) : wrap64 ((i : Int) + 1) = ((i + 1 : Nat) : Int) := by unfold wrap64; omega
theorem lists_l1 (W : List S23) (hW : W.length ≤ 8) (n : Int) : ∀ (d i : Nat), i + d = W.length → Ev (fun k => paybooklaw09_PlanLists.l1 k n W W (i : Int)) true := by
  intro d
  induction d with
  | zero =>
    intro i hi
    refine ⟨1, fun k hk => ?_⟩
    obtain ⟨k, rfl⟩ : ∃ m, k = m + 1 := ⟨k - 1, by omega⟩
    simp only [paybooklaw09_PlanLists.l1]
    rw [if_neg (by omega)]
    by_cases h : n < 0 ∨ (W.length : Int) ≤ n
    · rw [get_far h]
      simp only [Option.bind_some]
      by_cases h0 : n ≥ 0
      · rw [if_pos h0, if_pos (by have : ¬ n < (W.length : Int) := by omega
                                  simp [this]), if_neg (by decide)]
        rfl
      · rw [if_neg h0, if_pos (by decide), if_neg (by decide)]
        rfl
    · obtain ⟨m, rfl⟩ : ∃ m : Nat, n = (m : Int) := ⟨n.toNat, by omega⟩
      rw [get_f (by omega : m < W.length)]
      simp only [Option.bind_some]
      rw [if_pos (by omega), if_pos (by have : (m : Int) < (W.length : Int) := by omega
                                        simp [this]), if_pos trivial]
  | succ d ih =>
    intro i hi
    have hlt : i < W.length := by omega
    obtain ⟨K0, h0⟩ := ih (i + 1) (by omega)
    refine ⟨K0 + 1, fun k hk => ?_⟩
    obtain ⟨k, rfl⟩ : ∃ m, k = m + 1 := ⟨k - 1, by omega⟩
    simp only [paybooklaw09_PlanLists.l1]
    have hr : rd_T23 W (i : Int) = W[i] := by simp [rd_T23, List.getD_eq_getElem?_getD, hlt]
    rw [if_pos (by omega), get_f hlt]
    simp only [Option.bind_some]
    rw [if_pos trivial, if_pos (by omega), hr, if_neg (by simp), wone i (by omega)]
    exact h0 k (by omega)
/-- A round: with the plan p, what comes behind it true. -/
theorem lists_j2 (l W : List S23) (p : S23) (n : Int) (i : Nat) (hi : i ≤ 1000) (hW : W.length ≤ 8) (h1 : Ev (fun k => paybooklaw09_PlanLists.l0 k l n W W ((i + 1 : Nat) : Int)) true)
    (h2 : W.length < 8 → Ev (fun k => paybooklaw09_PlanLists.l0 k l n (W ++ [p]) (W ++ [p]) ((i + 1 : Nat) : Int)) true) :
    Ev (fun k => paybooklaw09_PlanLists.j2 k l n W W (i : Int) p.f0 p.f1 p.f2 p.f3 p.f4 p.f5) true := by
  obtain ⟨Ka, ha⟩ := right_ev p.f0 p.f1 p.f2 p.f3 p.f4 p.f5
  obtain ⟨Kb, hb⟩ := lright_ev p.f0 p.f1 p.f2 p.f3 p.f4 p.f5
  replace ha : ∀ k, Ka ≤ k → plan_Right.f k p.f0 p.f1 p.f2 p.f3 p.f4 p.f5 = some (rightI p.f0 p.f1 p.f2 p.f3) := ha
  replace hb : ∀ k, Kb ≤ k → paybooklaw09_right.f k p.f0 p.f1 p.f2 p.f3 p.f4 p.f5 = some (rightI p.f0 p.f1 p.f2 p.f3) := hb
  obtain ⟨K1, g1⟩ := h1
  by_cases hr : rightI p.f0 p.f1 p.f2 p.f3 = 0
  · by_cases h8 : W.length < 8
    · obtain ⟨K2, g2⟩ := h2 h8
      refine ⟨Ka + Kb + K1 + K2 + 10, fun k hk => ?_⟩
      obtain ⟨k, rfl⟩ : ∃ m, k = m + 4 := ⟨k - 4, by omega⟩
      simp only [paybooklaw09_PlanLists.j2]
      rw [add_f hW (ha (k + 3) (by omega)), hb (k + 3) (by omega), hr]
      simp only [Option.bind_some]
      rw [if_pos trivial, if_pos trivial, if_neg (by omega)]
      have hd : decide ((W.length : Int) ≥ 8) = false := decide_eq_false (by omega)
      simp only [hd, paybooklaw09_PlanLists.j3, paybooklaw09_PlanLists.j4, paybooklaw09_PlanLists.j5]
      rw [if_neg (by decide), if_pos trivial, if_pos trivial, if_pos trivial, if_neg (by simp), if_pos trivial, if_pos (by omega), wone i hi]
      exact g2 k (by omega)
    · refine ⟨Ka + Kb + K1 + 10, fun k hk => ?_⟩
      obtain ⟨k, rfl⟩ : ∃ m, k = m + 4 := ⟨k - 4, by omega⟩
      simp only [paybooklaw09_PlanLists.j2]
      rw [add_f hW (ha (k + 3) (by omega)), hb (k + 3) (by omega), hr]
      simp only [Option.bind_some]
      rw [if_pos trivial, if_pos trivial, if_pos (by omega)]
      have hd : decide ((W.length : Int) ≥ 8) = true := decide_eq_true (by omega)
      simp only [hd, paybooklaw09_PlanLists.j3, paybooklaw09_PlanLists.j4, paybooklaw09_PlanLists.j5]
      rw [if_pos trivial, if_pos trivial, if_neg (by decide), if_pos (by simp), if_pos trivial, if_neg (by decide), if_neg (by decide), wone i hi]
      exact g1 k (by omega)
  · refine ⟨Ka + Kb + K1 + 10, fun k hk => ?_⟩
    obtain ⟨k, rfl⟩ : ∃ m, k = m + 4 := ⟨k - 4, by omega⟩
    simp only [paybooklaw09_PlanLists.j2]
    rw [add_f hW (ha (k + 3) (by omega)), hb (k + 3) (by omega)]
    simp only [Option.bind_some]
    rw [if_neg hr, if_neg hr]
    simp only [paybooklaw09_PlanLists.j3, paybooklaw09_PlanLists.j4, paybooklaw09_PlanLists.j5]
    rw [if_neg (by decide), if_pos trivial, if_neg hr, if_pos (by simp), if_pos trivial, if_neg (by decide), if_neg hr, wone i hi]
    exact g1 k (by omega)
def Wf (p : S23) : Prop := (Lit.int .i64 p.f0).wf = true ∧ (Lit.int .u8 p.f1).wf = true ∧ (Lit.int .i64 p.f2).wf = true ∧ (Lit.int .i64 p.f3).wf = true
theorem lists_l0 (l : List S23) (hl : ∀ p ∈ l, Wf p) (h20 : l.length ≤ 20) (n : Int) : ∀ (d i : Nat), i + d = l.length → ∀ W : List S23, W.length ≤ 8 → Ev (fun k => paybooklaw09_PlanLists.l0 k l n W W (i : Int)) true := by
  intro d
  induction d with
  | zero =>
    intro i hi W hW
    obtain ⟨K0, h0⟩ := lists_l1 W hW n W.length 0 (by omega)
    refine ⟨K0 + 1, fun k hk => ?_⟩
    obtain ⟨k, rfl⟩ : ∃ m, k = m + 1 := ⟨k - 1, by omega⟩
    simp only [paybooklaw09_PlanLists.l0]
    rw [if_neg (by omega)]
    exact h0 k (by omega)
  | succ d ih =>
    intro i hi W hW
    have hlt : i < l.length := by omega
    have hr : rd_T23 l (i : Int) = l[i] := by simp [rd_T23, List.getD_eq_getElem?_getD, hlt]
    have H : ∀ p : S23, Ev (fun k => paybooklaw09_PlanLists.j2 k l n W W (i : Int) p.f0 p.f1 p.f2 p.f3 p.f4 p.f5) true := fun p =>
      lists_j2 l W p n i (by omega) hW (ih (i + 1) (by omega) W hW) (fun h8 => ih (i + 1) (by omega) (W ++ [p]) (by simp; omega))
    by_cases h3 : Int.tmod (i : Int) 3 > 0
    · obtain ⟨w0, w1, w2, w3⟩ := hl _ (List.getElem_mem hlt)
      obtain ⟨p0, p1, p2, p3, _, hp⟩ := near_f (l[i]).f4 (l[i]).f5 w0 w1 w2 w3
      obtain ⟨K0, h0⟩ := H ⟨p0, p1, p2, p3, (l[i]).f4, (l[i]).f5⟩
      refine ⟨K0 + 1, fun k hk => ?_⟩
      obtain ⟨k, rfl⟩ : ∃ m, k = m + 1 := ⟨k - 1, by omega⟩
      simp only [paybooklaw09_PlanLists.l0]
      rw [if_pos (by omega), if_pos (by omega), if_pos h3, hr, hp]
      simp only [Option.bind_some]
      exact h0 k (by omega)
    · obtain ⟨K0, h0⟩ := H l[i]
      refine ⟨K0 + 1, fun k hk => ?_⟩
      obtain ⟨k, rfl⟩ : ∃ m, k = m + 1 := ⟨k - 1, by omega⟩
      simp only [paybooklaw09_PlanLists.l0]
      rw [if_pos (by omega), if_pos (by omega), if_neg h3, hr]
      exact h0 k (by omega)
theorem PlanLists (l : List S23) (hl : ∀ p ∈ l, Wf p) (n : Int) : ∃ k, paybooklaw09_PlanLists.f k l n = some true := by
  obtain ⟨Ka, ha⟩ := awake_ev
  by_cases h : (l.length : Int) > 20
  · refine ⟨Ka + 2, ?_⟩
    unfold paybooklaw09_PlanLists.f
    rw [ha _ (by omega)]
    simp only [Option.bind_some, if_true, decide_eq_true h, paybooklaw09_PlanLists.j0]
    rw [ha _ (by omega)]
    rfl
  · obtain ⟨K0, h0⟩ := lists_l0 l hl (by omega) n l.length 0 (by omega) [] (by simp)
    refine ⟨Ka + K0 + 2, ?_⟩
    unfold paybooklaw09_PlanLists.f
    rw [ha _ (by omega)]
    have hd : decide ((l.length : Int) > 20) = false := decide_eq_false h
    simp only [Option.bind_some, if_true, hd, paybooklaw09_PlanLists.j0]
    rw [if_neg (by simp)]
    exact h0 (Ka + K0 + 1) (by omega)
end Go.Proofs.Ytbjelaocihjhgaa.Pure
