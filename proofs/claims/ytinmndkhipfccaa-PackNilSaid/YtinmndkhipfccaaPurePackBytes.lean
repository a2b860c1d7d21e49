/- Bytes, and truths, and back. No condition. -/
import Derived.Test.YtinmndkhipfccaaPureGet
import Derived.Test.YtinmndkhipfccaaPureTake
import Derived.Test.YtinmndkhipfccaaPAx12
import Derived.Test.YtinmndkhipfccaaPAx13
import Derived.Test.YtinmndkhipfccaaPAx14
import Derived.Test.YtinmndkhipfccaaPAx15
import Derived.Test.YtinmndkhipfccaaPAx16
import Derived.Test.YtinmndkhipfccaaPAx3
import Derived.Test.YtinmndkhipfccaaPAx4
import Derived.Test.YtinmndkhipfccaaPAx6
import Derived.Test.YtinmndkhipfccaaPAx7
import Derived.Test.YtinmndkhipfccaaPAx8
import Derived.Test.YtinmndkhipfccaaPAx9
namespace Go.Proofs.Ytinmndkhipfccaa.Pure
open Go.RowKit Go.Proofs.Ytinmndkhipfccaa.PA Go.Proofs.YtinmndkhipfccaaW.PrintWords Go.Proofs.YtinmndkhipfccaaW.PrintLast Go.Proofs.YtinmndkhipfccaaW.PrintMore

theorem bputs_ev {q : List Int} (p : List Int) (e : Int) (hq : q.length ≤ 1000000) (hp : p.length ≤ 1000000) : Ev (fun k => pack_Box_Bytes.f k p e q) (p ++ packI (q.length : Int) ++ q, e) := by
  unfold pack_Box_Bytes.f
  have h64 : I64 (q.length : Int) := by unfold I64; omega
  have hl := packI_len h64
  have e1 : packsI [(q.length : Int)] = packI (q.length : Int) := by simp [packsI]
  refine Ev.bind (put_ev (by simpa using h64) p e (by simp; omega)) ?_
  rw [e1]
  refine Ev.congr (fun k => ?_) (Ev.now _)
  rw [if_pos (by simp only [List.length_append]; omega)]
theorem end_nil : pack_Box_End.f [] 0 = some (0, [], 0) := by rw [end_f]; rfl
def flagI (on : Bool) : Int := if on then 1 else 0
theorem fput_ev (p : List Int) (e : Int) (on : Bool) (hp : p.length ≤ 1000000) : Ev (fun k => pack_Box_Flag.f k p e on) (p ++ packI (flagI on), e) := by
  unfold pack_Box_Flag.f flagI
  cases on
  · simp only [Bool.false_eq_true, if_false]
    have := put_ev (l := [0]) (by intro x hx; simp at hx; subst hx; unfold I64; omega) p e (by simp; omega)
    exact Ev.bind this (by simp only [packsI, List.flatMap_cons, List.flatMap_nil, List.append_nil]; exact Ev.now _)
  · simp only [if_true]
    have := put_ev (l := [1]) (by intro x hx; simp at hx; subst hx; unfold I64; omega) p e (by simp; omega)
    exact Ev.bind this (by simp only [packsI, List.flatMap_cons, List.flatMap_nil, List.append_nil]; exact Ev.now _)
theorem takeI_put {q r : List Int} {most : Int} (hq : q.length ≤ 1000000) : takeI (packI (q.length : Int) ++ (q ++ r)) 0 most = if (q.length : Int) > most then ([], q ++ r, 6) else (q, r, 0) := by
  unfold takeI
  rw [getI_pack (n := (q.length : Int)) (by unfold I64; omega) (q ++ r) (show (0 : Int) ≤ (q.length : Int) by omega) (show (q.length : Int) ≤ 4611686018427387904 by omega)]
  simp only [ne_eq, not_true_eq_false, if_false]
  split
  · rfl
  · rw [if_neg (by simp only [List.length_append]; omega), Int.toNat_natCast]
    simp
theorem PackBytes : paybooklaw05_PackBytes.Pure := by
  intro p q on most _ _ hwp _ _ hwq hm
  have hp := byt_of hwp
  have hq := byt_of hwq
  have hm := bounds_u8 hm
  refine Ev.rounds (Ev.bind awake_ev ?_)
  have far : Ev (fun k => paybooklaw05_PackBytes.j0 k p q on most true) true := by
    refine Ev.step (f := fun k => (paybooklaw05_awake.f k).bind fun t268 => some t268) (fun k => by simp only [paybooklaw05_PackBytes.j0, if_true]) (Ev.bind awake_ev (Ev.now _))
  simp only [if_true]
  by_cases h1 : (p.length : Int) > 200
  · simp only [if_pos h1]; exact far
  · simp only [if_neg h1]
    by_cases h2 : (q.length : Int) > 200
    · rw [decide_eq_true h2]; exact far
    · rw [decide_eq_false h2]
      have hlp : I64 (p.length : Int) := by unfold I64; omega
      have hlq : I64 (q.length : Int) := by unfold I64; omega
      have hlf : I64 (flagI on) := by unfold I64 flagI; split <;> omega
      have np := packI_len hlp
      have nq := packI_len hlq
      have nf := packI_len hlf
      have hwm : wrap64 most = most := by unfold wrap64; omega
      let D := packI (p.length : Int) ++ (p ++ (packI (flagI on) ++ (packI (q.length : Int) ++ (q ++ []))))
      have hD : D = packI (p.length : Int) ++ (p ++ (packI (flagI on) ++ (packI (q.length : Int) ++ (q ++ [])))) := rfl
      have hDl : D.length ≤ 1000 := by rw [hD]; simp only [List.length_append, List.length_nil]; omega
      have hDb : Byt D := (packI_byt _).append (hp.append ((packI_byt _).append ((packI_byt _).append (hq.append (by intro x hx; simp at hx)))))
      have h3 : ([] : List Int) ++ packI (p.length : Int) ++ p ++ packI (flagI on) ++ packI (q.length : Int) ++ q = D := by rw [hD]; simp
      have hS : (strOfNums D).toList = ((strOfNums (packI (p.length : Int) ++ p ++ packI (flagI on) ++ packI (q.length : Int))) ++ (strOfNums q)).toList := by
        have e0 : ∀ a b : ByteArray, (a ++ b).toList = a.toList ++ b.toList := fun a b => by simp [ByteArray.toList_eq]
        rw [e0, Lib.strOfNums_toList, Lib.strOfNums_toList, Lib.strOfNums_toList]
        unfold Lib.bytesOf
        rw [← List.map_append, hD]
        simp
      have step1 : ∀ k, paybooklaw05_PackBytes.j0 (k + 1) p q on most false = (pack_Box_Bytes.f k [] 0 p).bind fun bt478 => ((pack_Box_Flag.f k bt478.1 bt478.2 on).bind fun bt482 => ((pack_Box_Bytes.f k bt482.1 bt482.2 q).bind fun bt486 => ((pack_Box_Done.f bt486.1 bt486.2).bind fun bt490 => ((pack_Of.f bt490.1).bind fun bt497 => ((pack_Box_GetBytes.f k bt497.1 bt497.2 (wrap64 most)).bind fun bt502 => (if (p.length : Int) > (wrap64 most) then (if (bt502.1.length : Int) = 0 then ((pack_Box_Fault.f bt502.2.1 bt502.2.2).bind fun bt509 => (some (bt509.1 == 6))) else (some false)) else ((pack_Box_GetFlag.f k bt502.2.1 bt502.2.2).bind fun bt514 => ((pack_Box_GetBytes.f k bt514.2.1 bt514.2.2 200).bind fun bt519 => (if on = true then (paybooklaw05_PackBytes.j1 k p q on bt490.1 bt502.1 bt514.1 bt519.1 1 bt519.2.1 bt519.2.2) else (paybooklaw05_PackBytes.j1 k p q on bt490.1 bt502.1 bt514.1 bt519.1 0 bt519.2.1 bt519.2.2)))))))))) := fun k => by
        simp only [paybooklaw05_PackBytes.j0, Bool.false_eq_true, if_false, new_f, Option.bind_some]
      refine Ev.step step1 (Ev.bind (bputs_ev [] 0 (by omega) (by simp)) (Ev.bind (fput_ev _ 0 on (by simp only [List.length_append, List.length_nil]; omega)) (Ev.bind (bputs_ev _ 0 (by omega) (by simp only [List.length_append, List.length_nil]; omega)) ?_)))
      dsimp only
      rw [h3, done_f _ _ (by omega)]
      dsimp only [Option.bind_some]
      rw [of_f _ (by omega), hwm]
      dsimp only [Option.bind_some]
      refine Ev.bind (bytes_ev hDb (by omega) 0 most) ?_
      have t1 := takeI_put (q := p) (r := packI (flagI on) ++ (packI (q.length : Int) ++ (q ++ []))) (most := most) (by omega)
      rw [← hD] at t1
      rw [t1]
      by_cases h4 : (p.length : Int) > most
      · simp only [if_pos h4]
        exact Ev.now _
      · simp only [if_neg h4]
        have hb2 : Byt (packI (flagI on) ++ (packI (q.length : Int) ++ (q ++ []))) := (packI_byt _).append ((packI_byt _).append (hq.append (by intro x hx; simp at hx)))
        have hb3 : Byt (packI (q.length : Int) ++ (q ++ [])) := (packI_byt _).append (hq.append (by intro x hx; simp at hx))
        have f1 := flag_ev hb2 (by simp only [List.length_append, List.length_nil]; omega) 0
        rw [getI_pack hlf _ (show (0 : Int) ≤ flagI on by unfold flagI; split <;> omega) (show flagI on ≤ 1 by unfold flagI; split <;> omega)] at f1
        refine Ev.bind f1 (Ev.bind (bytes_ev hb3 (by simp only [List.length_append, List.length_nil]; omega) 0 200) ?_)
        rw [takeI_put (by omega), if_neg h2]
        have hfl : (flagI on == 1) = on := by cases on <;> rfl
        have fin : Ev (fun k => paybooklaw05_PackBytes.j1 k p q on D p (flagI on == 1) q (flagI on) [] 0) true := by
          have step2 : ∀ k, paybooklaw05_PackBytes.j1 (k + 1) p q on D p (flagI on == 1) q (flagI on) [] 0 = (paybookref05_Pack.f k (p.length : Int)).bind fun t526 => (if ([] : List Int).length + t526.length < 140737488355328 then ((some (([] : List Int) ++ t526 : List Int)).bind fun y529 => (if y529.length + p.length < 140737488355328 then ((some (y529 ++ p : List Int)).bind fun y532 => ((paybookref05_Pack.f k (flagI on)).bind fun t535 => (if y532.length + t535.length < 140737488355328 then ((some (y532 ++ t535 : List Int)).bind fun y538 => ((paybookref05_Pack.f k (q.length : Int)).bind fun t541 => (if y538.length + t541.length < 140737488355328 then ((some (y538 ++ t541 : List Int)).bind fun y544 => (if (strOfNums p).toList = (strOfNums p).toList then (if ((flagI on == 1) == on) = true then (if (strOfNums q).toList = (strOfNums q).toList then ((pack_Box_End.f [] 0).bind fun bt547 => (if bt547.1 = 0 then (if (strOfNums y544).size + (strOfNums q).size ≤ 9223372036854775807 then (some ((strOfNums D).toList == ((strOfNums y544) ++ (strOfNums q)).toList)) else (none)) else (some false))) else (some false)) else (some false)) else (some false))) else (none)))) else (none)))) else (none))) else (none)) := fun k => rfl
          refine Ev.step step2 (Ev.bind (pack_ev hlp) ?_)
          simp only [List.nil_append, List.length_nil, Option.bind_some]
          simp only [if_pos (show 0 + (packI (p.length : Int)).length < 140737488355328 by omega), if_pos (show (packI (p.length : Int)).length + p.length < 140737488355328 by omega)]
          refine Ev.bind (pack_ev hlf) ?_
          simp only [if_pos (show (packI (p.length : Int) ++ p).length + (packI (flagI on)).length < 140737488355328 by simp only [List.length_append]; omega)]
          refine Ev.bind (pack_ev hlq) ?_
          simp only [if_pos (show (packI (p.length : Int) ++ p ++ packI (flagI on)).length + (packI (q.length : Int)).length < 140737488355328 by simp only [List.length_append]; omega), hfl, beq_self_eq_true, if_true, end_nil, Option.bind_some]
          refine Ev.congr (f := fun _ => some true) (fun k => ?_) (Ev.now _)
          rw [if_pos (by rw [strOfNums_size, strOfNums_size]; simp only [List.length_append]; omega), ← hS, beq_self_eq_true]
        dsimp only
        cases on
        · simpa [flagI] using fin
        · simpa [flagI] using fin
end Go.Proofs.Ytinmndkhipfccaa.Pure
