/- The reference's plate: its functions' contracts. -/
import Derived.Test.YtcobkideokljfaaPlateM
namespace Go.Proofs.Ytcobkideokljfaa
open Go.RowKit Go.Proofs.YtcobkideokljfaaW.PrintWords Go.Proofs.YtcobkideokljfaaW.PrintLast Go.Proofs.YtcobkideokljfaaW.PrintMore Go.Proofs.Ytcobkideokljfaa.PA
set_option linter.unusedVariables false
set_option linter.unusedSimpArgs false
abbrev kRow := Kd.slice 5 (Kd.int .u8)
/-- The reference's plate that is p (its spare sp), told through blocks of P. -/
def RefIs (w : World) (P : Nat → Prop) (x : Value) (p : St) (sp : Int) : Prop :=
  ∃ A0 c0 A1 c1, x = .agg #[.slice A0 p.safe.length c0, .slice A1 p.wet.length c1, .int .i64 p.left, .int .i64 sp, .bool p.off, .int .i64 p.acts] ∧ Kd.V kRow 22 w 0 P (.slice A0 p.safe.length c0) p.safe ∧ Kd.V k68 68 w 0 P (.slice A1 p.wet.length c1) (p.wet.map toS)
theorem RefIs.step {w w' : World} {P : Nat → Prop} {x : Value} {p : St} {sp : Int} (h : RefIs w P x p sp) (hm : ∀ k, P k → k < w.heap.size → w'.heap[k]? = w.heap[k]?) : RefIs w' P x p sp := by
  obtain ⟨A0, c0, A1, c1, e, h0, h1⟩ := h
  exact ⟨A0, c0, A1, c1, e, Kd.V_step h0 hm, Kd.V_step h1 hm⟩
theorem RefIs.bound {w : World} {P : Nat → Prop} {x : Value} {p : St} {sp : Int} (h : RefIs w P x p sp) : RefIs w (fun k => P k ∧ k < w.heap.size) x p sp := by
  obtain ⟨A0, c0, A1, c1, e, h0, h1⟩ := h
  exact ⟨A0, c0, A1, c1, e, Kd.V_bound h0, Kd.V_bound h1⟩
theorem RefIs.mono {w : World} {P P' : Nat → Prop} {x : Value} {p : St} {sp : Int} (h : RefIs w P x p sp) (hp : ∀ k, P k → P' k) : RefIs w P' x p sp := by
  obtain ⟨A0, c0, A1, c1, e, h0, h1⟩ := h
  exact ⟨A0, c0, A1, c1, e, Kd.V_mono h0 hp, Kd.V_mono h1 hp⟩
theorem RefIs.mk {w : World} {P : Nat → Prop} {v0 v1 : Value} {p : St} {sp : Int} (h0 : Kd.V kRow 22 w 0 P v0 p.safe) (h1 : Kd.V k68 68 w 0 P v1 (p.wet.map toS)) : RefIs w P (.agg #[v0, v1, .int .i64 p.left, .int .i64 sp, .bool p.off, .int .i64 p.acts]) p sp := by
  obtain ⟨A0, c0, e0⟩ := Kd.V_slice h0
  obtain ⟨A1, c1, e1⟩ := Kd.V_slice h1
  rw [List.length_map] at e1
  subst e0 e1
  exact ⟨A0, c0, A1, c1, rfl, h0, h1⟩
theorem rnew_c (n : Nat) (hn : n ≤ 1000) (w : World) : Calls Try.prog 12 #[.int .i64 n] w fun e w' => ∃ x, e = .returned x ∧ RefIs w' (fun k => w.heap.size ≤ k) x (St.new n) 0 ∧ Below w.heap.size w w' := by
  refine (paybookref05_New.calls 1001 n _ _ _ _ _ _ w (rnew_f hn)).mono ?_
  rintro e w' ⟨v0, v1, rfl, h0, h1, hb⟩
  refine ⟨_, rfl, ?_, hb⟩
  have k0 : Kd.V kRow 22 w' 0 (fun k => w.heap.size ≤ k) v0 (St.new n).safe := Kd.V_mono (Kd.S_V (Kd.S_bound h0)) (fun k hk => hk.2.1)
  have k1 : Kd.V k68 68 w' 0 (fun k => w.heap.size ≤ k) v1 ((St.new n).wet.map toS) := Kd.V_mono (Kd.S_V (Kd.S_bound h1)) (fun k hk => hk.2.1)
  exact RefIs.mk (p := St.new n) k0 k1
theorem ract_c {w : World} {P : Nat → Prop} {x : Value} {p : St} {sp : Int} (H : RefIs w P x p sp) (hl : -1 ≤ p.left) (hl2 : p.left ≤ 1000000) : Calls Try.prog 31 #[x] w fun e w' => ∃ x', e = .returned (.tuple #[x', .bool (decide (p.act.2 = 0))]) ∧ RefIs w' (fun k => P k ∨ w.heap.size ≤ k) x' p.act.1 sp ∧ Below w.heap.size w w' := by
  obtain ⟨safe, wet, left, off, acts, spare⟩ := p
  obtain ⟨A0, c0, A1, c1, rfl, h0, h1⟩ := H
  have hf := act_f 0 safe (wet.map toS) left sp acts off hl hl2
  have hq := paybookref05_act.calls 1 P A0 c0 safe P A1 c1 (wet.map toS) left sp off acts _ _ _ _ _ _ _ w h0 (by rw [List.length_map]; exact h1) hf
  rw [List.length_map] at hq
  refine hq.mono ?_
  rintro e w' ⟨v0, v1, rfl, k0, k1, hb⟩
  have ha := act_wet ⟨safe, wet, left, off, acts, spare⟩
  have eL : (St.act ⟨safe, [], left, off, acts, sp⟩).1.left = (St.act ⟨safe, wet, left, off, acts, spare⟩).1.left := by unfold St.act; split <;> (try split) <;> rfl
  have eO : (St.act ⟨safe, [], left, off, acts, sp⟩).1.off = (St.act ⟨safe, wet, left, off, acts, spare⟩).1.off := by unfold St.act; split <;> (try split) <;> rfl
  have eA : (St.act ⟨safe, [], left, off, acts, sp⟩).1.acts = (St.act ⟨safe, wet, left, off, acts, spare⟩).1.acts := by unfold St.act; split <;> (try split) <;> rfl
  have eE : (St.act ⟨safe, [], left, off, acts, sp⟩).2 = (St.act ⟨safe, wet, left, off, acts, spare⟩).2 := by unfold St.act; split <;> (try split) <;> rfl
  rw [eL, eO, eA, eE]
  refine ⟨_, rfl, RefIs.mk ?_ ?_, hb⟩
  · rw [ha.2.1]; exact Kd.V_mono k0 (fun k hk => hk.elim (fun h => .inl (h.elim id id)) .inr)
  · rw [ha.1]; exact Kd.V_mono k1 (fun k hk => hk.elim (fun h => .inl (h.elim id id)) .inr)
theorem rkeep_c {w : World} {P : Nat → Prop} {x : Value} {p : St} {sp : Int} (H : RefIs w P x p sp) (hf : Fit p) (n : Int) : Calls Try.prog 32 #[x, .int .i64 n] w fun e w' => ∃ x', e = .returned x' ∧ RefIs w' (fun k => P k ∨ w.heap.size ≤ k) x' (p.dry (min n.toNat p.wet.length)) sp ∧ Below w.heap.size w w' := by
  obtain ⟨safe, wet, left, off, acts, spare⟩ := p
  obtain ⟨A0, c0, A1, c1, rfl, h0, h1⟩ := H
  have hk := keep_f (n := n) (l := left) (s := sp) (a := acts) (o := off) hf.sn hf.wn hf.at_
  have hq := paybookref05_keep.calls 1001 P A0 c0 safe P A1 c1 (wet.map toS) left sp off acts n _ _ _ _ _ _ w h0 (by rw [List.length_map]; exact h1) hk
  rw [List.length_map] at hq
  refine hq.mono ?_
  rintro e w' ⟨v0, v1, rfl, k0, k1, hb⟩
  refine ⟨_, rfl, RefIs.mk (p := St.dry ⟨safe, wet, left, off, acts, spare⟩ (min n.toNat wet.length)) ?_ ?_, hb⟩
  · exact Kd.V_mono (Kd.N_V k0) (fun k hk => hk.1.elim (fun h => .inl (h.elim id id)) .inr)
  · exact Kd.V_mono (Kd.N_V k1) (fun k hk => hk.1.elim (fun h => .inl (h.elim id id)) .inr)
theorem rread_c {w : World} {P : Nat → Prop} {x : Value} {p : St} {sp : Int} (H : RefIs w P x p sp) (hf : Fit p) (i : Nat) (hi : i < p.safe.length) : Calls Try.prog 30 #[x, .int .i64 i] w fun e w' => ∃ v, e = .returned v ∧ Kd.V (Kd.int .u8) 5 w' 0 (fun k => P k ∨ w.heap.size ≤ k) v (p.sector i) ∧ Below w.heap.size w w' := by
  obtain ⟨safe, wet, left, off, acts, spare⟩ := p
  obtain ⟨A0, c0, A1, c1, rfl, h0, h1⟩ := H
  have hk := read_f (l := left) (s := sp) (a := acts) (o := off) (W := wet) hi hf.wn
  have hq := paybookref05_Read.calls 1001 P A0 c0 safe P A1 c1 (wet.map toS) left sp off acts i _ w h0 (by rw [List.length_map]; exact h1) hk
  rw [List.length_map] at hq
  refine hq.mono ?_
  rintro e w' ⟨v0, rfl, k0, hb⟩
  exact ⟨_, rfl, Kd.V_mono k0 (fun k hk => hk.elim (fun h => .inl (h.elim id id)) .inr), hb⟩
end Go.Proofs.Ytcobkideokljfaa
