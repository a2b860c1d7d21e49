/- Bytes that are cut have a fault, and what is ahead of it is told; what is left over is told, too. No condition. -/
import Derived.Test.YtinmndkhipfccaaPureGet
import Derived.Test.YtinmndkhipfccaaPureTake
import Derived.Test.YtinmndkhipfccaaPAx16
namespace Go.Proofs.Ytinmndkhipfccaa.Pure
open Go.RowKit Go.Proofs.Ytinmndkhipfccaa.PA Go.Proofs.YtinmndkhipfccaaW.PrintWords Go.Proofs.YtinmndkhipfccaaW.PrintLast Go.Proofs.YtinmndkhipfccaaW.PrintMore

theorem get_any {p : List Int} (hp : Byt p) (hm : p.length ≤ 9223372036854775807) {n : Int} (h : I64 n) {r : List Int} (e : p = packI n ++ r) : Ev (fun k => pack_Box_Get.f k p 0 (-9223372036854775808) 9223372036854775807) (n, r, 0) := by
  have := get_ev hp hm 0 (-9223372036854775808) 9223372036854775807
  have h2 := h
  unfold I64 at h2
  subst e
  rwa [getI_pack h r (show (-9223372036854775808 : Int) ≤ n by omega) (show n ≤ (9223372036854775807 : Int) by omega)] at this
theorem cuts_l1 {l : List Int} (hl : ∀ x ∈ l, I64 x) (h30 : l.length ≤ 30) (m : Int) (hm : 0 ≤ m ∧ m < 256) : ∀ (d i : Nat), i + d = l.length → Ev (fun k => paybooklaw05_PackCuts.l1 k l (i : Int) [] 0 (packsI (l.drop i) ++ [m]) 0) true := by
  intro d
  induction d with
  | zero =>
    intro i hi
    refine Ev.step (f := fun _ => some true) (fun k => ?_) (Ev.now _)
    simp only [paybooklaw05_PackCuts.l1]
    rw [if_neg (by omega), end_f, end_f, List.drop_eq_nil_of_le (by omega)]
    simp [packsI]
  | succ d ih =>
    intro i hi
    have hlt : i < l.length := by omega
    have hx : I64 l[i] := hl _ (List.getElem_mem hlt)
    have hd : packsI (l.drop i) = packI l[i] ++ packsI (l.drop (i + 1)) := by rw [List.drop_eq_getElem_cons hlt, packsI_cons]
    have hlen2 := packsI_len (l := l.drop i) (fun x hx => hl x (List.mem_of_mem_drop hx))
    have hdl : (l.drop i).length ≤ 30 := by rw [List.length_drop]; omega
    have g := get_any (p := packsI (l.drop i) ++ [m]) ((packsI_byt _).append (by intro x hx; simp at hx; omega)) (by simp only [List.length_append, List.length_singleton]; omega) hx (r := packsI (l.drop (i + 1)) ++ [m]) (by rw [hd, List.append_assoc])
    refine Ev.step (f := fun k => (pack_Box_Get.f k (packsI (l.drop i) ++ [m]) 0 (-9223372036854775808) 9223372036854775807).bind fun bt349 => (paybooklaw05_PackCuts.l1 k l (wrap64 ((i : Int) + 1)) [] 0 bt349.2.1 bt349.2.2)) (fun k => ?_) (Ev.bind g ?_)
    · simp only [paybooklaw05_PackCuts.l1]
      rw [if_pos (by omega)]
    · rw [wrap_one i (by omega)]
      exact ih (i + 1) (by omega)
/-- How many bytes the first i numbers have. -/
def upto (l : List Int) (i : Nat) : Nat := (packsI (l.take i)).length
theorem upto_succ {l : List Int} {i : Nat} (h : i < l.length) : upto l (i + 1) = upto l i + (packI l[i]).length := by
  unfold upto
  rw [List.take_succ_eq_append_getElem h, packsI_append, List.length_append]
  simp [packsI]
theorem cuts_l0 {l : List Int} (hl : ∀ x ∈ l, I64 x) (h30 : l.length ≤ 30) (m : Int) (hm : 0 ≤ m ∧ m < 256) (K : Nat) (hK : K ≤ (packsI l).length) : ∀ (d i : Nat), i + d = l.length → upto l i ≤ K →
    Ev (fun k => paybooklaw05_PackCuts.l0 k l m (packsI l) (K : Int) ((upto l i : Nat) : Int) (i : Int) ((packsI (l.drop i)).take (K - upto l i)) 0) true := by
  have hlen := packsI_len hl
  intro d
  induction d with
  | zero =>
    intro i hi hu
    have hd : packsI (l.drop i) = [] := by rw [List.drop_eq_nil_of_le (by omega)]; rfl
    have h1 := cuts_l1 hl h30 m hm l.length 0 (by omega)
    rw [List.drop_zero] at h1
    refine Ev.step (f := fun k => paybooklaw05_PackCuts.l1 k l 0 [] 0 (packsI l ++ [m]) 0) (fun k => ?_) h1
    simp only [paybooklaw05_PackCuts.l0]
    rw [if_neg (by omega), hd, if_pos (by simp only [List.length_nil]; omega)]
    simp only [Option.bind_some, List.nil_append]
    rw [if_pos (by omega), of_f _ (by simp only [List.length_append, List.length_singleton]; omega)]
    simp
  | succ d ih =>
    intro i hi hu
    have hlt : i < l.length := by omega
    have hx : I64 l[i] := hl _ (List.getElem_mem hlt)
    have hd : packsI (l.drop i) = packI l[i] ++ packsI (l.drop (i + 1)) := by rw [List.drop_eq_getElem_cons hlt, packsI_cons]
    have hs := upto_succ hlt
    have hle : upto l (i + 1) ≤ (packsI l).length := by
      unfold upto
      conv => rhs; rw [← List.take_append_drop (i + 1) l, packsI_append, List.length_append]
      omega
    refine Ev.step (f := fun k => (paybookref05_Pack.f k l[i]).bind fun t324 => ((pack_Box_Get.f k ((packsI (l.drop i)).take (K - upto l i)) 0 (-9223372036854775808) 9223372036854775807).bind fun bt327 => (if (wrap64 (((upto l i : Nat) : Int) + (t324.length : Int))) > (K : Int) then (if bt327.1 = 0 then ((pack_Box_Fault.f bt327.2.1 bt327.2.2).bind fun bt332 => (some (bt332.1 == 5))) else (some false)) else (if bt327.1 = l[i] then (paybooklaw05_PackCuts.l0 k l m (packsI l) (K : Int) (wrap64 (((upto l i : Nat) : Int) + (t324.length : Int))) (wrap64 ((i : Int) + 1)) bt327.2.1 bt327.2.2) else (some false))))) (fun k => ?_) (Ev.bind (pack_ev hx) ?_)
    · simp only [paybooklaw05_PackCuts.l0]
      rw [if_pos (by omega), if_pos (by omega), rd_nat l i hlt]
    · have hw : wrap64 (((upto l i : Nat) : Int) + ((packI l[i]).length : Int)) = ((upto l (i + 1) : Nat) : Int) := by rw [hs]; unfold wrap64; omega
      rw [hw]
      by_cases hc : upto l (i + 1) > K
      · have g := get_ev (p := (packsI (l.drop i)).take (K - upto l i)) ((packsI_byt _).take _) (by rw [List.length_take]; omega) 0 (-9223372036854775808) 9223372036854775807
        have e : (packsI (l.drop i)).take (K - upto l i) = (packI l[i]).take (K - upto l i) := by rw [hd, List.take_append_of_le_length (by omega)]
        rw [e] at g ⊢
        rw [getI_cut hx (by omega)] at g
        refine Ev.bind g ?_
        refine Ev.congr (f := fun _ => some true) (fun k => ?_) (Ev.now _)
        dsimp only
        rw [if_pos (by omega), if_pos rfl]
        rfl
      · have g := get_any (p := (packsI (l.drop i)).take (K - upto l i)) ((packsI_byt _).take _) (by rw [List.length_take]; omega) hx (r := (packsI (l.drop (i + 1))).take (K - upto l (i + 1))) (by rw [hd, List.take_append, List.take_of_length_le (by omega), hs]; congr 2; omega)
        refine Ev.bind g ?_
        refine Ev.congr (fun k => ?_) (ih (i + 1) (by omega) (by omega))
        dsimp only
        rw [if_neg (by omega), if_pos rfl, wrap_one i (by omega)]
theorem PackCuts : paybooklaw05_PackCuts.Pure := by
  intro l c m _ _ hw hc hm
  have hl := i64s hw
  have hc := bounds_u16 hc
  have hm := bounds_u8 hm
  refine Ev.rounds (Ev.bind awake_ev ?_)
  have far : Ev (fun k => paybooklaw05_PackCuts.j0 k l c m true) true := by
    refine Ev.step (f := fun k => (paybooklaw05_awake.f k).bind fun t268 => some t268) (fun k => by simp only [paybooklaw05_PackCuts.j0, if_true]) (Ev.bind awake_ev (Ev.now _))
  simp only [if_true]
  by_cases h : (l.length : Int) > 30
  · rw [decide_eq_true h]; exact far
  · rw [decide_eq_false h]
    have hlen := packsI_len hl
    generalize hL : (packsI l).length = L at hlen
    have hK : wrap64 c = c ∧ wrap64 ((L : Int) + 1) = (L : Int) + 1 := by unfold wrap64; omega
    have hmod : Int.tmod c ((L : Int) + 1) = c % ((L : Int) + 1) := Int.tmod_eq_emod_of_nonneg (by omega)
    have hr0 := Int.emod_nonneg c (show ((L : Int) + 1) ≠ 0 by omega)
    have hr1 := Int.emod_lt_of_pos c (show 0 < ((L : Int) + 1) by omega)
    obtain ⟨K, hKe⟩ := Int.eq_ofNat_of_zero_le hr0
    have h0 := cuts_l0 hl (by omega) m (by omega) K (by omega) l.length 0 (by omega) (by simp [upto, packsI])
    have hu0 : upto l 0 = 0 := by simp [upto, packsI]
    rw [hu0, List.drop_zero] at h0
    refine Ev.step (f := fun k => (paybookref05_Packs.f k l).bind fun t311 => (if (wrap64 ((t311.length : Int) + 1)) = 0 then (none) else (if 0 ≤ (Int.tmod (wrap64 c) (wrap64 ((t311.length : Int) + 1))) then (if (Int.tmod (wrap64 c) (wrap64 ((t311.length : Int) + 1))) ≤ (t311.length : Int) then ((pack_Of.f (t311.take ((Int.tmod (wrap64 c) (wrap64 ((t311.length : Int) + 1))) : Int).toNat)).bind fun bt318 => (paybooklaw05_PackCuts.l0 k l m t311 (Int.tmod (wrap64 c) (wrap64 ((t311.length : Int) + 1))) 0 0 bt318.1 bt318.2)) else (none)) else (none)))) (fun k => by simp only [paybooklaw05_PackCuts.j0, Bool.false_eq_true, if_false]) (Ev.bind (packs_ev hl (by omega)) ?_)
    refine Ev.congr (fun k => ?_) h0
    rw [hL, hK.1, hK.2, hmod, hKe, if_neg (by omega), if_pos (by omega), if_pos (by omega), of_f _ (by rw [List.length_take]; omega), Int.toNat_natCast]
    rfl

end Go.Proofs.Ytinmndkhipfccaa.Pure
