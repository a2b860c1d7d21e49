/- A plan in a box, and back. No condition. -/
import Derived.Test.YtbjelaocihjhgaaPureChange
import Derived.Test.YtbjelaocihjhgaaPureNear
import Derived.Test.YtbjelaocihjhgaaPureBox
import Derived.Test.YtbjelaocihjhgaaPAx19
import Derived.Test.YtbjelaocihjhgaaPAx20
import Derived.Test.YtbjelaocihjhgaaPAx23
import Derived.Test.YtbjelaocihjhgaaPAx25
import Derived.Test.YtbjelaocihjhgaaPAx26
import Derived.Test.YtbjelaocihjhgaaPAx28
namespace Go.Proofs.Ytbjelaocihjhgaa.Pure
open Go.RowKit Go.Proofs.Ytbjelaocihjhgaa.PA Go.Proofs.YtbjelaocihjhgaaW.PrintWords Go.Proofs.YtbjelaocihjhgaaW.PrintLast Go.Proofs.YtbjelaocihjhgaaW.PrintMore

def flagI (on : Bool) : Int := if on then 1 else 0
theorem fput_ev (p : List Int) (e : Int) (on : Bool) (hp : p.length ≤ 1000000) : Ev (fun k => pack_Box_Flag.f k p e on) (p ++ packI (flagI on), e) := by
  unfold pack_Box_Flag.f flagI
  cases on
  · simp only [Bool.false_eq_true, if_false]
    have := put_ev (l := [0]) (by intro x hx; simp at hx; subst hx; unfold I64; omega) p e (by simp; omega)
    exact Ev.bind this (by simp only [packsI, List.flatMap_cons, List.flatMap_nil, List.append_nil]; exact Ev.now _)
  · simp only [if_true]
    have := put_ev (l := [1]) (by intro x hx; simp at hx; subst hx; unfold I64; omega) p e (by simp; omega)
    exact Ev.bind this (by simp only [packsI, List.flatMap_cons, List.flatMap_nil, List.append_nil]; exact Ev.now _)
theorem get_pack {n least most : Int} {r : List Int} (hr : Byt r) (hm : r.length ≤ 1000000) (h : I64 n) (h1 : least ≤ n) (h2 : n ≤ most) : Ev (fun k => pack_Box_Get.f k (packI n ++ r) 0 least most) (n, r, 0) := by
  have := get_ev (p := packI n ++ r) ((packI_byt n).append hr) (by have := packI_len h; simp only [List.length_append]; omega) 0 least most
  rwa [getI_pack h r h1 h2] at this
theorem flag_pack {on : Bool} {r : List Int} (hr : Byt r) (hm : r.length ≤ 1000000) : Ev (fun k => pack_Box_GetFlag.f k (packI (flagI on) ++ r) 0) (on, r, 0) := by
  unfold pack_Box_GetFlag.f
  have h : I64 (flagI on) := by unfold I64 flagI; split <;> omega
  refine Ev.bind (get_pack hr hm h (show (0 : Int) ≤ flagI on by unfold flagI; split <;> omega) (show flagI on ≤ 1 by unfold flagI; split <;> omega)) ?_
  have e : (flagI on == 1) = on := by cases on <;> rfl
  simp only [e]
  exact Ev.now _
theorem pput_ev {p0 p1 p2 p3 : Int} (hp : PlanOk p0 p1 p2 p3) (p4 p5 : Bool) : Ev (fun k => plan_Put.f k [] 0 p0 p1 p2 p3 p4 p5) (packsI [p0, p1, p2, p3, flagI p4, flagI p5], 0) := by
  unfold PlanOk at hp
  unfold plan_Put.f
  have e1 : wrap64 p1 = p1 := by unfold wrap64; omega
  have hl : ∀ x ∈ [p0, p1, p2, p3], I64 x := by
    intro x hx
    simp only [List.mem_cons, List.not_mem_nil, or_false] at hx
    unfold I64
    rcases hx with rfl | rfl | rfl | rfl <;> omega
  have hlen := packsI_len hl
  simp only [List.length_cons, List.length_nil] at hlen
  have hf : ∀ b : Bool, (packI (flagI b)).length ≤ 11 := fun b => packI_len (by unfold I64 flagI; split <;> omega)
  rw [e1]
  refine Ev.bind (put_ev hl [] 0 (by simp)) (Ev.bind (fput_ev _ 0 p4 (by simp only [List.length_append, List.length_nil]; omega)) (Ev.bind (fput_ev _ 0 p5 (by have := hf p4; simp only [List.length_append, List.length_nil]; omega)) ?_))
  have e : [] ++ packsI [p0, p1, p2, p3] ++ packI (flagI p4) ++ packI (flagI p5) = packsI [p0, p1, p2, p3, flagI p4, flagI p5] := by simp [packsI]
  simp only [e]
  exact Ev.now _
theorem PlanBytes : paybooklaw09_PlanBytes.Pure := by
  intro a0 a1 a2 a3 a4 a5 m h0 h1 h2 h3 hm
  obtain ⟨p0, p1, p2, p3, hp, hpa⟩ := near_f a4 a5 h0 h1 h2 h3
  have hm := i64_of hm
  have hlm := packI_len hm
  have hf : ∀ b : Bool, I64 (flagI b) := fun b => by unfold I64 flagI; split <;> omega
  have hl : ∀ x ∈ [p0, p1, p2, p3, flagI a4, flagI a5], I64 x := by
    intro x hx
    unfold PlanOk at hp
    simp only [List.mem_cons, List.not_mem_nil, or_false] at hx
    rcases hx with rfl | rfl | rfl | rfl | rfl | rfl
    · unfold I64; omega
    · unfold I64; omega
    · unfold I64; omega
    · unfold I64; omega
    · exact hf _
    · exact hf _
  have hlen := packsI_len hl
  simp only [List.length_cons, List.length_nil] at hlen
  have e1 : wrap64 p1 = p1 := by unfold PlanOk at hp; unfold wrap64; omega
  have ef : ∀ b : Bool, paybooklaw09_flag.f b = some (flagI b) := fun b => by cases b <;> rfl
  refine Ev.rounds ?_
  unfold paybooklaw09_PlanBytes.f
  rw [hpa, new_f]
  simp only [Option.bind_some, ef, e1]
  refine Ev.bind (pput_ev hp a4 a5) ?_
  dsimp only
  rw [done_f _ _ (by omega)]
  dsimp only [Option.bind_some]
  refine Ev.bind (packs_ev hl (by simp)) ?_
  simp only [List.nil_append, List.length_nil, if_pos (show 0 + (packsI [p0, p1, p2, p3, flagI a4, flagI a5]).length < 140737488355328 by omega)]
  refine Ev.bind (pack_ev hm) ?_
  simp only [if_pos (show (packsI [p0, p1, p2, p3, flagI a4, flagI a5]).length + (packI m).length < 140737488355328 by omega)]
  rw [of_f _ (by simp only [List.length_append]; omega)]
  simp only [Option.bind_some]
  have hg : Ev (fun k => plan_Get.f k (packsI [p0, p1, p2, p3, flagI a4, flagI a5] ++ packI m) 0) (p0, p1, p2, p3, a4, a5, packI m, 0) := by
    unfold PlanOk at hp
    have b1 := packI_byt m
    have b2 := (packI_byt (flagI a5)).append b1
    have b3 := (packI_byt (flagI a4)).append b2
    have b4 := (packI_byt p3).append b3
    have b5 := (packI_byt p2).append b4
    have b6 := (packI_byt p1).append b5
    have l1 := packI_len (hf a5)
    have l2 := packI_len (hf a4)
    have i0 : I64 p0 := hl p0 (by simp)
    have i1 : I64 p1 := hl p1 (by simp)
    have i2 : I64 p2 := hl p2 (by simp)
    have i3 : I64 p3 := hl p3 (by simp)
    have l3 := packI_len i3
    have l4 := packI_len i2
    have l5 := packI_len i1
    have e : packsI [p0, p1, p2, p3, flagI a4, flagI a5] ++ packI m = packI p0 ++ (packI p1 ++ (packI p2 ++ (packI p3 ++ (packI (flagI a4) ++ (packI (flagI a5) ++ packI m))))) := by simp [packsI]
    rw [e]
    unfold plan_Get.f
    refine Ev.bind (get_pack b6 (by simp only [List.length_append]; omega) i0 (by omega) (by omega)) ?_
    refine Ev.bind (get_pack b5 (by simp only [List.length_append]; omega) i1 (by omega) (by omega)) ?_
    refine Ev.bind (get_pack b4 (by simp only [List.length_append]; omega) i2 (by omega) (by omega)) ?_
    refine Ev.bind (get_pack b3 (by simp only [List.length_append]; omega) i3 (by omega) (by omega)) ?_
    refine Ev.bind (flag_pack b2 (by simp only [List.length_append]; omega)) ?_
    refine Ev.bind (flag_pack b1 (by omega)) ?_
    simp only [fault_f, Option.bind_some, if_true, show p1 % 256 = p1 by omega]
    exact Ev.now _
  refine Ev.bind hg (Ev.bind awake_ev ?_)
  have gm : Ev (fun k => pack_Box_Get.f k (packI m) 0 m m) (m, [], 0) := by
    have := get_pack (n := m) (least := m) (most := m) (r := []) (by intro x hx; simp at hx) (by simp) hm (by omega) (by omega)
    rwa [List.append_nil] at this
  simp only [if_true, beq_self_eq_true, Bool.and_self, fault_f, Option.bind_some]
  refine Ev.bind gm ?_
  simp only [if_true, end_f, Option.bind_some]
  exact Ev.now _

end Go.Proofs.Ytbjelaocihjhgaa.Pure
