/- Seals, one behind the other, are opened one by one; cut anywhere, those ahead of the cut are. -/
import Derived.Test.YtifefhdinnechaaDoorPureOpen
import Derived.Test.YtifefhdinnechaaDoorPAx18
namespace Go.Proofs.YtifefhdinnechaaDoor.Pure
open Go.RowKit Go.Proofs.YtifefhdinnechaaDoor.PA Go.Proofs.YtifefhdinnechaaDoorW.PrintWords Go.Proofs.YtifefhdinnechaaDoorW.PrintLast Go.Proofs.YtifefhdinnechaaDoorW.PrintMore

def packs (age : Int) : Nat → List (List Int) → List Int
  | _, [] => []
  | s, x :: xs => closeI age (s : Int) x ++ packs age (s + 1) xs
theorem packs_append (age : Int) (a b : List (List Int)) : ∀ s, packs age s (a ++ b) = packs age s a ++ packs age (s + a.length) b := by
  induction a with
  | nil => intro s; rfl
  | cons x a ih =>
    intro s
    show closeI age (s : Int) x ++ packs age (s + 1) (a ++ b) = closeI age (s : Int) x ++ packs age (s + 1) a ++ packs age (s + (a.length + 1)) b
    rw [ih, List.append_assoc, show s + 1 + a.length = s + (a.length + 1) by omega]
theorem packs_bytes (age : Int) (l : List (List Int)) (hl : ∀ x ∈ l, Bytes x) : ∀ s, Bytes (packs age s l) := by
  induction l with
  | nil => intro s x hx; cases hx
  | cons x l ih => intro s; exact (closeI_bytes (hl x (by simp))).append (ih (fun y hy => hl y (by simp [hy])) _)
theorem packs_len (age : Int) (l : List (List Int)) (hl : ∀ x ∈ l, x.length ≤ 60) : ∀ s, (packs age s l).length ≤ 76 * l.length := by
  induction l with
  | nil => intro s; exact Nat.zero_le _
  | cons x l ih =>
    intro s
    have h1 := ih (fun y hy => hl y (by simp [hy])) (s + 1)
    have h2 := hl x (by simp)
    show (closeI age (s : Int) x ++ packs age (s + 1) l).length ≤ 76 * (l.length + 1)
    rw [List.length_append, closeI_length]; omega
def PP (age : Int) (l : List (List Int)) (i : Nat) : List Int := packs age 0 (l.take i)
def EE (age : Int) (l : List (List Int)) (i : Nat) : List Int := (List.range i).map fun j => ((PP age l (j + 1)).length : Int)
theorem PP_succ (age : Int) (l : List (List Int)) (i : Nat) (h : i < l.length) : PP age l (i + 1) = PP age l i ++ closeI age (i : Int) l[i] := by
  unfold PP
  rw [List.take_succ_eq_append_getElem h, packs_append, List.length_take, Nat.min_eq_left (by omega)]
  simp [packs]
theorem PP_all (age : Int) (l : List (List Int)) (i : Nat) (h : i < l.length) : PP age l l.length = PP age l i ++ (closeI age (i : Int) l[i] ++ packs age (i + 1) (l.drop (i + 1))) := by
  unfold PP
  rw [List.take_length]
  conv => lhs; rw [← List.take_append_drop i l]
  rw [packs_append, List.length_take, Nat.min_eq_left (by omega), List.drop_eq_getElem_cons h]
  simp [packs]
theorem EE_succ (age : Int) (l : List (List Int)) (i : Nat) : EE age l (i + 1) = EE age l i ++ [((PP age l (i + 1)).length : Int)] := by
  unfold EE
  rw [List.range_succ, List.map_append]
  rfl
theorem EE_len (age : Int) (l : List (List Int)) (i : Nat) : (EE age l i).length = i := by unfold EE; simp
theorem EE_at (age : Int) (l : List (List Int)) (n i : Nat) (h : i < n) : rd (EE age l n) (i : Int) = ((PP age l (i + 1)).length : Int) := by
  unfold EE rd
  simp [h]
theorem cut_open {a b : Int} {p r : List Int} (hp : p.length ≤ 1048576) (ha : 0 ≤ a ∧ a < 4294967296) (hb : 0 ≤ b ∧ b < 4294967296) (m : Nat) :
    openI a b ((closeI a b p ++ r).take m) = if m < 16 + p.length then ([], 0, 5) else (p, 16 + (p.length : Int), 0) := by
  by_cases h : m < 16 + p.length
  · rw [if_pos h, List.take_append_of_le_length (by rw [closeI_length]; omega)]
    exact open_cut hp h a b
  · rw [if_neg h, List.take_append, List.take_of_length_le (by rw [closeI_length]; omega)]
    exact open_close _ hp ha.1 ha.2 hb.1 hb.2
section
variable {age : Int} {l : List (List Int)} (ha : 0 ≤ age ∧ age < 4294967296) (hl : ∀ x ∈ l, Bytes x) (h10 : l.length ≤ 10)
include ha hl h10
theorem rows_l1 (h60 : ∀ x ∈ l, x.length ≤ 60) (K : Int) (hK0 : 0 ≤ K) (hK : K ≤ (PP age l l.length).length) : ∀ (d i : Nat), i + d = l.length → ((PP age l i).length : Int) ≤ K →
    Ev (fun k => paybooklaw06_SealRows.l1 k age l (PP age l l.length) (EE age l l.length) K ((PP age l i).length : Int) (i : Int)) true := by
  intro d
  have hPB : Bytes (PP age l l.length) := packs_bytes _ _ (fun x hx => hl x (List.mem_of_mem_take hx)) _
  have hPL : (PP age l l.length).length ≤ 760 := by
    have := packs_len age (l.take l.length) (fun x hx => h60 x (List.mem_of_mem_take hx)) 0
    rw [List.length_take] at this
    unfold PP
    omega
  induction d with
  | zero =>
    intro i hi hat
    refine ⟨1, fun k hk => ?_⟩
    obtain ⟨k, rfl⟩ : ∃ m, k = m + 1 := ⟨k - 1, by omega⟩
    simp only [paybooklaw06_SealRows.l1]
    obtain rfl : i = l.length := by omega
    rw [if_neg (by omega)]
    simp
  | succ d ih =>
    intro i hi hat
    have hlt : i < l.length := by omega
    have hx60 := h60 l[i] (List.getElem_mem _)
    have hsplit := PP_all age l i hlt
    have hsucc := PP_succ age l i hlt
    have hlen : (PP age l (i + 1)).length = (PP age l i).length + (16 + l[i].length) := by rw [hsucc, List.length_append, closeI_length]
    have hall : (PP age l l.length).length = (PP age l i).length + (16 + l[i].length + (packs age (i + 1) (l.drop (i + 1))).length) := by rw [hsplit, List.length_append, List.length_append, closeI_length]
    have hy : ((PP age l l.length).take K.toNat).drop ((PP age l i).length : Int).toNat = (closeI age (i : Int) l[i] ++ packs age (i + 1) (l.drop (i + 1))).take (K.toNat - (PP age l i).length) := by
      rw [hsplit, List.take_append, List.take_of_length_le (by omega), show ((PP age l i).length : Int).toNat = (PP age l i).length from rfl, List.drop_left]
    have hrl : rd_L1 l (i : Int) = l[i] := by simp [rd_L1, List.getD_eq_getElem?_getD, hlt]
    have hop := cut_open (r := packs age (i + 1) (l.drop (i + 1))) (p := l[i]) (by omega) ha (b := (i : Int)) ⟨by omega, by omega⟩ (K.toNat - (PP age l i).length)
    have hyb : Bytes ((closeI age (i : Int) l[i] ++ packs age (i + 1) (l.drop (i + 1))).take (K.toNat - (PP age l i).length)) := by rw [← hy]; exact (hPB.take _).drop _
    have hyl : ((closeI age (i : Int) l[i] ++ packs age (i + 1) (l.drop (i + 1))).take (K.toNat - (PP age l i).length)).length ≤ 1000 := by rw [← hy, List.length_drop, List.length_take]; omega
    have hmod : ((i : Int)) % 4294967296 = (i : Int) := by omega
    have he := EE_at age l l.length i hlt
    by_cases hc : ((PP age l (i + 1)).length : Int) > K
    · refine ⟨2000, fun k hk => ?_⟩
      obtain ⟨k, rfl⟩ : ∃ m, k = m + 1 := ⟨k - 1, by omega⟩
      simp only [paybooklaw06_SealRows.l1]
      rw [if_pos (by omega), if_pos (by omega), if_pos hat, if_pos hK, hmod, hy, open_f hyb (by omega) _ _ _ (by omega), hop, if_pos (by omega)]
      simp only [Option.bind_some]
      rw [if_pos (by omega), if_pos (by rw [EE_len]; omega), he, if_pos hc, if_pos trivial, if_pos (by simp)]
      rfl
    · obtain ⟨K0, h0⟩ := ih (i + 1) (by omega) (by omega)
      refine ⟨K0 + 2000, fun k hk => ?_⟩
      obtain ⟨k, rfl⟩ : ∃ m, k = m + 1 := ⟨k - 1, by omega⟩
      simp only [paybooklaw06_SealRows.l1]
      rw [if_pos (by omega), if_pos (by omega), if_pos hat, if_pos hK, hmod, hy, open_f hyb (by omega) _ _ _ (by omega), hop, if_neg (by omega)]
      simp only [Option.bind_some]
      rw [if_pos (by omega), if_pos (by rw [EE_len]; omega), he, if_neg hc, if_pos trivial, hrl, if_pos rfl, wrap_of _ (by omega) (by omega), if_pos (by omega), wrap_of _ (by omega) (by omega)]
      have h1 := h0 k (by omega)
      rw [show ((PP age l i).length : Int) + (16 + (l[i].length : Int)) = ((PP age l (i + 1)).length : Int) by omega, show (i : Int) + 1 = ((i + 1 : Nat) : Int) by omega]
      exact h1
theorem rows_l0 (cut : Int) (hc : 0 ≤ cut ∧ cut ≤ 65535) : ∀ (d i : Nat), i + d = l.length → (∀ j (h : j < l.length), j < i → l[j].length ≤ 60) →
    Ev (fun k => paybooklaw06_SealRows.l0 k age l cut (PP age l i) (EE age l i) (i : Int)) true := by
  intro d
  induction d with
  | zero =>
    intro i hi h60
    obtain rfl : i = l.length := by omega
    have h60' : ∀ x ∈ l, x.length ≤ 60 := fun x hx => by
      obtain ⟨j, hj, rfl⟩ := List.getElem_of_mem hx
      exact h60 j hj hj
    have hPL : (PP age l l.length).length ≤ 760 := by
      have := packs_len age (l.take l.length) (fun x hx => h60' x (List.mem_of_mem_take hx)) 0
      rw [List.length_take] at this
      unfold PP
      omega
    have hm0 : 0 ≤ cut % (((PP age l l.length).length : Int) + 1) := Int.emod_nonneg _ (by omega)
    have hm1 : cut % (((PP age l l.length).length : Int) + 1) < ((PP age l l.length).length : Int) + 1 := Int.emod_lt_of_pos _ (by omega)
    obtain ⟨K0, h0⟩ := rows_l1 ha hl h10 h60' (cut % (((PP age l l.length).length : Int) + 1)) hm0 (by omega) l.length 0 (by omega) hm0
    refine ⟨K0 + 1, fun k hk => ?_⟩
    obtain ⟨k, rfl⟩ : ∃ m, k = m + 1 := ⟨k - 1, by omega⟩
    simp only [paybooklaw06_SealRows.l0]
    rw [if_neg (by omega), wrap_of (((PP age l l.length).length : Int) + 1) (by omega) (by omega), if_neg (by omega), wrap_of cut (by omega) (by omega), Int.tmod_eq_emod_of_nonneg hc.1]
    exact h0 k (by omega)
  | succ d ih =>
    intro i hi h60
    have hlt : i < l.length := by omega
    have hrl : rd_L1 l (i : Int) = l[i] := by simp [rd_L1, List.getD_eq_getElem?_getD, hlt]
    by_cases hx : (l[i].length : Int) > 60
    · refine ⟨1, fun k hk => ?_⟩
      obtain ⟨k, rfl⟩ : ∃ m, k = m + 1 := ⟨k - 1, by omega⟩
      simp only [paybooklaw06_SealRows.l0]
      rw [if_pos (by omega), if_pos (by omega), hrl, if_pos hx]
    · obtain ⟨K0, h0⟩ := ih (i + 1) (by omega) (fun j h hj => by
        rcases Nat.lt_or_ge j i with h1 | h1
        · exact h60 j h h1
        · obtain rfl : j = i := by omega
          omega)
      have hPL : (PP age l i).length ≤ 760 := by
        have := packs_len age (l.take i) (fun x hx => by
          obtain ⟨j, hj, rfl⟩ := List.getElem_of_mem hx
          rw [List.length_take] at hj
          rw [List.getElem_take]
          exact h60 j (by omega) (by omega)) 0
        rw [List.length_take] at this
        unfold PP
        omega
      refine ⟨K0 + 2000, fun k hk => ?_⟩
      obtain ⟨k, rfl⟩ : ∃ m, k = m + 1 := ⟨k - 1, by omega⟩
      simp only [paybooklaw06_SealRows.l0]
      rw [if_pos (by omega), if_pos (by omega), hrl, if_neg hx, show ((i : Int)) % 4294967296 = (i : Int) by omega, refClose_f (hl _ (List.getElem_mem _)) (by omega) _ _ ha ⟨by omega, by omega⟩ _ (by omega)]
      simp only [Option.bind_some]
      rw [if_pos (by rw [closeI_length]; omega), if_pos (by rw [EE_len]; omega), wrap_of _ (by omega) (by omega), ← PP_succ age l i hlt, ← EE_succ, show (i : Int) + 1 = ((i + 1 : Nat) : Int) by omega]
      exact h0 k (by omega)
end
theorem SealRows (a0 : Int) (l : List (List Int)) (a2 : Int) (h0 : 0 ≤ a0 ∧ a0 < 4294967296) (hl : ∀ x ∈ l, Bytes x) (h2 : 0 ≤ a2 ∧ a2 ≤ 65535) : ∃ k, paybooklaw06_SealRows.f k a0 l a2 = some true := by
  by_cases h : (l.length : Int) > 10
  · refine ⟨20, ?_⟩
    unfold paybooklaw06_SealRows.f
    rw [awake_f _ (by omega)]
    simp only [Option.bind_some, if_true, decide_eq_true h, paybooklaw06_SealRows.j0]
    rw [awake_f _ (by omega)]
    rfl
  · obtain ⟨K0, hk⟩ := rows_l0 h0 hl (by omega) a2 h2 l.length 0 (by omega) (fun j h hj => by omega)
    refine ⟨K0 + 20, ?_⟩
    unfold paybooklaw06_SealRows.f
    rw [awake_f _ (by omega)]
    have hd : decide ((l.length : Int) > 10) = false := decide_eq_false h
    simp only [Option.bind_some, if_true, hd, paybooklaw06_SealRows.j0]
    rw [if_neg (by simp)]
    exact hk (K0 + 19) (by omega)
end Go.Proofs.YtifefhdinnechaaDoor.Pure
