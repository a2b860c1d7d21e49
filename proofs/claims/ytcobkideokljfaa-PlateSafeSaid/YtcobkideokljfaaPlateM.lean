/- The reference's plate: what it reckons. -/
import Derived.Test.YtcobkideokljfaaPlateL
import Derived.Test.YtcobkideokljfaaPAx5
import Derived.Test.YtcobkideokljfaaPAx4
import Derived.Test.YtcobkideokljfaaPAx7
import Derived.Test.YtcobkideokljfaaPAx2
namespace Go.Proofs.Ytcobkideokljfaa
open Go.RowKit Go.Proofs.YtcobkideokljfaaW.PrintWords Go.Proofs.YtcobkideokljfaaW.PrintLast Go.Proofs.YtcobkideokljfaaW.PrintMore Go.Proofs.Ytcobkideokljfaa.PA
set_option linter.unusedVariables false
set_option linter.unusedSimpArgs false
def toS (q : Wr) : S68 := ⟨q.1, q.2⟩
theorem rd_toS {W : List Wr} {i : Nat} {q : Wr} (h : W[i]? = some q) : rd_T68 (W.map toS) (i : Int) = toS q := by
  simp [rd_T68, rdOf, h]
theorem keep_l0 {S0 : List (List Int)} {W : List Wr} {n l s a L : Int} {o : Bool} (hW : W.length ≤ 1000) (hat : ∀ q ∈ W, 0 ≤ q.1 ∧ q.1 < L) : ∀ (d i : Nat), i + d = min n.toNat W.length → ∀ x5 : List (List Int), (x5.length : Int) = L → ∀ k, d + 1 ≤ k →
    paybookref05_keep.l0 k n x5 (i : Int) S0 (W.map toS) l s o a = some (drySafe x5 ((W.take (min n.toNat W.length)).drop i), [], l, s, o, a)
  | 0, i, hi, x5, hx, k, hk => by
    obtain ⟨k, rfl⟩ : ∃ j, k = j + 1 := ⟨k - 1, by omega⟩
    have e : (W.take (min n.toNat W.length)).drop i = [] := List.drop_eq_nil_of_le (by simp; omega)
    rw [e]
    unfold paybookref05_keep.l0
    rw [List.length_map]
    by_cases h1 : (i : Int) < n
    · rw [if_pos h1, if_neg (by omega)]; rfl
    · rw [if_neg h1]; rfl
  | d + 1, i, hi, x5, hx, k, hk => by
    obtain ⟨k, rfl⟩ : ∃ j, k = j + 1 := ⟨k - 1, by omega⟩
    have hiw : i < W.length := by omega
    obtain ⟨q, hq⟩ : ∃ q, W[i]? = some q := ⟨_, List.getElem?_eq_getElem hiw⟩
    have ha := hat q (List.mem_of_getElem? hq)
    have hw : wrap64 ((i : Int) + 1) = ((i + 1 : Nat) : Int) := by unfold wrap64; omega
    have ih := keep_l0 (S0 := S0) (n := n) (l := l) (s := s) (a := a) (o := o) hW hat d (i + 1) (by omega) (x5.set q.1.toNat q.2) (by simpa using hx) k (by omega)
    unfold paybookref05_keep.l0
    rw [rd_toS hq, List.length_map, if_pos (by omega), if_pos (by omega), if_pos (by omega)]
    rw [if_pos (show 0 ≤ (toS q).f0 from ha.1), if_pos (show (toS q).f0 < (x5.length : Int) by rw [hx]; exact ha.2), hw]
    refine Eq.trans ih ?_
    have e : (W.take (min n.toNat W.length)).drop i = q :: (W.take (min n.toNat W.length)).drop (i + 1) := by
      have hl : i < (W.take (min n.toNat W.length)).length := by simp; omega
      rw [List.drop_eq_getElem_cons hl]
      congr 1
      have h2 : (W.take (min n.toNat W.length))[i]? = some q := by rw [List.getElem?_take_of_lt (by omega)]; exact hq
      rw [List.getElem?_eq_getElem hl] at h2
      exact Option.some.inj h2
    rw [e]
    rfl
theorem keep_f {S : List (List Int)} {W : List Wr} {n l s a : Int} {o : Bool} (hS : S.length ≤ 1000) (hW : W.length ≤ 1000) (hat : ∀ q ∈ W, 0 ≤ q.1 ∧ q.1 < S.length) :
    paybookref05_keep.f 1001 S (W.map toS) l s o a n = some (drySafe S (W.take (min n.toNat W.length)), [], l, s, o, a) := by
  unfold paybookref05_keep.f
  rw [if_pos (by simp; omega), List.nil_append]
  have := keep_l0 (S0 := S) (n := n) (l := l) (s := s) (a := a) (o := o) hW hat (min n.toNat W.length) 0 (by omega) S rfl 1001 (by omega)
  simpa using this
theorem act_f (k : Nat) (S : List (List Int)) (W : List S68) (l s a : Int) (o : Bool) (hl : -1 ≤ l) (hl2 : l ≤ 1000000) :
    paybookref05_act.f (k + 1) S W l s o a = some (S, W, (St.act ⟨S, [], l, o, a, s⟩).1.left, s, (St.act ⟨S, [], l, o, a, s⟩).1.off, (St.act ⟨S, [], l, o, a, s⟩).1.acts, decide ((St.act ⟨S, [], l, o, a, s⟩).2 = 0)) := by
  have hw : wrap64 (l - 1) = l - 1 := by unfold wrap64; omega
  cases o
  · by_cases h0 : l = 0
    · subst h0
      simp [paybookref05_act.f, paybookref05_act.j0, St.act]
    · have hb : (l == 0) = false := beq_eq_false_iff_ne.mpr h0
      by_cases h1 : l > 0
      · have : ¬ l - 1 < -1 := by omega
        simp [paybookref05_act.f, paybookref05_act.j0, St.act, hb, h0, h1, hw, mx, this]
      · have e : l = -1 := by omega
        subst e
        simp [paybookref05_act.f, paybookref05_act.j0, St.act, mx, wrap64]
  · simp [paybookref05_act.f, paybookref05_act.j0, St.act]
theorem read_l0 {S : List (List Int)} {W : List Wr} {l s a : Int} {o : Bool} {x : Nat} (hW : W.length ≤ 1000) : ∀ (d i : Nat), i + d = W.length → ∀ (x5 : List Int) (k : Nat), d + 1 ≤ k →
    paybookref05_Read.l0 k (x : Int) x5 (i : Int) S (W.map toS) l s o a = some (look x x5 (W.drop i))
  | 0, i, hi, x5, k, hk => by
    obtain ⟨k, rfl⟩ : ∃ j, k = j + 1 := ⟨k - 1, by omega⟩
    rw [List.drop_eq_nil_of_le (by omega)]
    unfold paybookref05_Read.l0
    rw [List.length_map, if_neg (by omega)]
    rfl
  | d + 1, i, hi, x5, k, hk => by
    obtain ⟨k, rfl⟩ : ∃ j, k = j + 1 := ⟨k - 1, by omega⟩
    have hiw : i < W.length := by omega
    obtain ⟨q, hq⟩ : ∃ q, W[i]? = some q := ⟨_, List.getElem?_eq_getElem hiw⟩
    have hw : wrap64 ((i : Int) + 1) = ((i + 1 : Nat) : Int) := by unfold wrap64; omega
    have e : W.drop i = q :: W.drop (i + 1) := by
      rw [List.drop_eq_getElem_cons hiw]
      rw [List.getElem?_eq_getElem hiw] at hq
      rw [Option.some.inj hq]
    rw [e]
    unfold paybookref05_Read.l0
    rw [rd_toS hq, List.length_map, if_pos (by omega), if_pos (by omega), hw]
    by_cases h : q.1 = (x : Int)
    · rw [if_pos (show (toS q).f0 = (x : Int) from h)]
      refine (read_l0 (S := S) (l := l) (s := s) (a := a) (o := o) hW d (i + 1) (by omega) q.2 k (by omega)).trans ?_
      simp [look, h]
    · rw [if_neg (show ¬ (toS q).f0 = (x : Int) from h)]
      refine (read_l0 (S := S) (l := l) (s := s) (a := a) (o := o) hW d (i + 1) (by omega) x5 k (by omega)).trans ?_
      simp [look, h]
theorem read_f {S : List (List Int)} {W : List Wr} {l s a : Int} {o : Bool} {x : Nat} (hx : x < S.length) (hW : W.length ≤ 1000) : paybookref05_Read.f 1001 S (W.map toS) l s o a (x : Int) = some (look x (S.getD x []) W) := by
  unfold paybookref05_Read.f
  rw [if_pos (by omega), if_pos (by omega)]
  have := read_l0 (S := S) (l := l) (s := s) (a := a) (o := o) (x := x) hW W.length 0 (by omega) (rd_L1 S x) 1001 (by omega)
  simpa [rd_L1] using this
theorem rnew_l0 {n : Nat} (hn : n ≤ 1000) : ∀ (d i : Nat), i + d = n → ∀ (k : Nat), d + 1 ≤ k → paybookref05_New.l0 k (n : Int) (i : Int) (List.replicate i (List.replicate 64 0)) (-1) 0 false 0 = some (List.replicate n (List.replicate 64 0), [], -1, 0, false, 0)
  | 0, i, hi, k, hk => by
    obtain ⟨k, rfl⟩ : ∃ j, k = j + 1 := ⟨k - 1, by omega⟩
    obtain rfl : i = n := by omega
    unfold paybookref05_New.l0
    rw [if_neg (by omega)]
  | d + 1, i, hi, k, hk => by
    obtain ⟨k, rfl⟩ : ∃ j, k = j + 1 := ⟨k - 1, by omega⟩
    have hw : wrap64 ((i : Int) + 1) = ((i + 1 : Nat) : Int) := by unfold wrap64; omega
    unfold paybookref05_New.l0
    rw [if_pos (by omega), if_pos (by omega), if_pos (by rw [List.length_replicate]; omega), hw, show List.replicate i (List.replicate 64 (0 : Int)) ++ [List.replicate 64 0] = List.replicate (i + 1) (List.replicate 64 0) from List.replicate_succ'.symm]
    exact rnew_l0 hn d (i + 1) (by omega) k (by omega)
theorem rnew_f {n : Nat} (hn : n ≤ 1000) : paybookref05_New.f 1001 (n : Int) = some (List.replicate n (List.replicate 64 0), [], -1, 0, false, 0) := by
  unfold paybookref05_New.f
  exact rnew_l0 hn n 0 (by omega) 1001 (by omega)
end Go.Proofs.Ytcobkideokljfaa
