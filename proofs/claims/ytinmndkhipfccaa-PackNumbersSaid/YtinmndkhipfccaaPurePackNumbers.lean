/- Any numbers as bytes, and back. No condition. -/
import Derived.Test.YtinmndkhipfccaaPureGet
import Derived.Test.YtinmndkhipfccaaPureBack
import Derived.Test.YtinmndkhipfccaaPAx15
namespace Go.Proofs.Ytinmndkhipfccaa.Pure
open Go.RowKit Go.Proofs.Ytinmndkhipfccaa.PA Go.Proofs.YtinmndkhipfccaaW.PrintWords Go.Proofs.YtinmndkhipfccaaW.PrintLast Go.Proofs.YtinmndkhipfccaaW.PrintMore

theorem get_any {p : List Int} (hp : Byt p) (hm : p.length ≤ 9223372036854775807) {n : Int} (h : I64 n) {r : List Int} (e : p = packI n ++ r) : Ev (fun k => pack_Box_Get.f k p 0 (-9223372036854775808) 9223372036854775807) (n, r, 0) := by
  have := get_ev hp hm 0 (-9223372036854775808) 9223372036854775807
  have h2 := h
  unfold I64 at h2
  subst e
  rwa [getI_pack h r (show (-9223372036854775808 : Int) ≤ n by omega) (show n ≤ (9223372036854775807 : Int) by omega)] at this
theorem numbers_l0 {l : List Int} (hl : ∀ x ∈ l, I64 x) (h50 : l.length ≤ 50) : ∀ (d i : Nat), i + d = l.length → Ev (fun k => paybooklaw05_PackNumbers.l0 k l (packsI l) (i : Int) (packsI l) 0 (packsI (l.drop i)) 0) true := by
  have hlen := packsI_len hl
  intro d
  induction d with
  | zero =>
    intro i hi
    have hd : packsI (l.drop i) = [] := by rw [List.drop_eq_nil_of_le (by omega)]; rfl
    refine Ev.step (f := fun k => (paybookref05_Packs.f k l).bind fun t296 => (if (strOfNums (packsI l)).toList = (strOfNums t296).toList then ((pack_Box_End.f [] 0).bind fun bt299 => (if bt299.1 = 0 then ((pack_Box_Left.f (packsI l) 0).bind fun bt304 => (some (bt304.1 == ((packsI l).length : Int)))) else (some false))) else (some false))) (fun k => ?_) (Ev.bind (packs_ev hl (by omega)) ?_)
    · simp only [paybooklaw05_PackNumbers.l0]
      rw [if_neg (by omega), hd]
    · refine Ev.congr (f := fun _ => some true) (fun k => ?_) (Ev.now _)
      rw [if_pos rfl, end_f]
      simp [pack_Box_Left.f]
  | succ d ih =>
    intro i hi
    have hlt : i < l.length := by omega
    have hx : I64 l[i] := hl _ (List.getElem_mem hlt)
    have hd : packsI (l.drop i) = packI l[i] ++ packsI (l.drop (i + 1)) := by rw [List.drop_eq_getElem_cons hlt, packsI_cons]
    have hlen2 := packsI_len (l := l.drop i) (fun x hx => hl x (List.mem_of_mem_drop hx))
    have hdl : (l.drop i).length ≤ 50 := by rw [List.length_drop]; omega
    have g := get_any (packsI_byt _) (by omega) hx hd
    refine Ev.step (f := fun k => (pack_Box_Get.f k (packsI (l.drop i)) 0 (-9223372036854775808) 9223372036854775807).bind fun bt290 => (if 0 ≤ (i : Int) then (if bt290.1 = (rd l (i : Int)) then (paybooklaw05_PackNumbers.l0 k l (packsI l) (wrap64 ((i : Int) + 1)) (packsI l) 0 bt290.2.1 bt290.2.2) else (some false)) else (none))) (fun k => ?_) (Ev.bind g ?_)
    · simp only [paybooklaw05_PackNumbers.l0]
      rw [if_pos (by omega)]
    · refine Ev.congr (fun k => ?_) (ih (i + 1) (by omega))
      rw [if_pos (by omega), rd_nat l i hlt, if_pos rfl, wrap_one i (by omega)]
theorem PackNumbers : paybooklaw05_PackNumbers.Pure := by
  intro l _ _ hw
  have hl := i64s hw
  refine Ev.rounds (Ev.bind awake_ev ?_)
  have far : Ev (fun k => paybooklaw05_PackNumbers.j0 k l true) true := by
    refine Ev.step (f := fun k => (paybooklaw05_awake.f k).bind fun t268 => some t268) (fun k => by simp only [paybooklaw05_PackNumbers.j0, if_true]) (Ev.bind awake_ev (Ev.now _))
  simp only [if_true]
  by_cases h : (l.length : Int) > 50
  · rw [decide_eq_true h]; exact far
  · rw [decide_eq_false h]
    have hlen := packsI_len hl
    have h0 := numbers_l0 hl (by omega) l.length 0 (by omega)
    refine Ev.step (f := fun k => (pack_Box_Put.f k [] 0 l).bind fun bt274 => ((pack_Box_Done.f bt274.1 bt274.2).bind fun bt278 => ((pack_Of.f bt278.1).bind fun bt285 => (paybooklaw05_PackNumbers.l0 k l bt278.1 0 bt278.2.1 bt278.2.2 bt285.1 bt285.2)))) (fun k => by simp only [paybooklaw05_PackNumbers.j0, Bool.false_eq_true, if_false, new_f, Option.bind_some]) (Ev.bind (put_ev hl [] 0 (by simp; omega)) ?_)
    refine Ev.congr (fun k => ?_) h0
    dsimp only
    rw [List.nil_append, done_f _ _ (by omega)]
    dsimp only [Option.bind_some]
    rw [of_f _ (by omega)]
    rfl

end Go.Proofs.Ytinmndkhipfccaa.Pure
