/- A plate: what it is, and its small functions. -/
import Derived.Test.YtcobkideokljfaaPlateA
import Derived.Outline
import Derived.Deep.MidRow
import Derived.Laws.Tables
import Derived.Laws.CopyOwn
namespace Go.Proofs.Ytcobkideokljfaa
open Go.RowKit Go.Proofs.YtcobkideokljfaaW.PrintWords
set_option linter.unusedVariables false
set_option linter.unusedSimpArgs false

abbrev U (xs : List Int) : List Value := xs.map (Value.int .u8)
abbrev Wr := Int × List Int
def flatS (L : List (List Int)) : List Value := L.flatMap U
def flatW (L : List Wr) : List Value := L.flatMap fun p => .int .i64 p.1 :: U p.2
/-- A plate, as it is. -/
structure St where
  safe : List (List Int)
  wet : List Wr
  left : Int
  off : Bool
  acts : Int
  spare : Int
structure Fit (p : St) : Prop where
  sl : ∀ s ∈ p.safe, s.length = 64
  wl : ∀ q ∈ p.wet, q.2.length = 64
  at_ : ∀ q ∈ p.wet, 0 ≤ q.1 ∧ q.1 < p.safe.length
  sn : p.safe.length ≤ 1000
  wn : p.wet.length ≤ 1000
theorem flatS_len : ∀ {L : List (List Int)}, (∀ s ∈ L, s.length = 64) → (flatS L).length = L.length * 64
  | [], _ => rfl
  | s :: L, h => by
    have h1 := flatS_len (L := L) (fun x hx => h x (List.mem_cons_of_mem _ hx))
    have h2 := h s (List.mem_cons_self ..)
    simp only [flatS, List.flatMap_cons, List.length_append, List.length_map, List.length_cons] at h1 ⊢
    omega
theorem flatW_len : ∀ {L : List Wr}, (∀ q ∈ L, q.2.length = 64) → (flatW L).length = L.length * 65
  | [], _ => rfl
  | q :: L, h => by
    have h1 := flatW_len (L := L) (fun x hx => h x (List.mem_cons_of_mem _ hx))
    have h2 := h q (List.mem_cons_self ..)
    simp only [flatW, List.flatMap_cons, List.length_append, List.length_map, List.length_cons] at h1 ⊢
    omega
theorem flatS_app (L M : List (List Int)) : flatS (L ++ M) = flatS L ++ flatS M := by simp [flatS]
theorem flatW_app (L M : List Wr) : flatW (L ++ M) = flatW L ++ flatW M := by simp [flatW]
/-- The plate that is p, at block c, its rows sv and wv. -/
structure IsPlate (w : World) (c : Nat) (sv wv : Value) (p : St) : Prop where
  blk : w.heap[c]? = some (.cells #[sv, wv, .int .i64 p.left, .bool p.off, .int .i64 p.acts, .int .i64 p.spare] 54 (0, 0))
  srow : RowP w 0 55 64 sv p.safe.length (flatS p.safe)
  wrow : RowP w 0 57 65 wv p.wet.length (flatW p.wet)
  fit : Fit p
/-- Its blocks. -/
def Own (c : Nat) (sv wv : Value) (k : Nat) : Prop := k = c ∨ some k = sv.ownBlock ∨ some k = wv.ownBlock
theorem IsPlate.keep {w w' : World} {c : Nat} {sv wv : Value} {p : St} {T : Nat → Prop} (h : IsPlate w c sv wv p) (hf : Fr w w' T) (hd : ∀ k, Own c sv wv k → ¬ T k) : IsPlate w' c sv wv p :=
  ⟨hf.at h.blk (hd _ (.inl rfl)), h.srow.of (fun g hg => hf.block g (h.srow.lt g hg).1 (hd g (.inr (.inl hg)))), h.wrow.of (fun g hg => hf.block g (h.wrow.lt g hg).1 (hd g (.inr (.inr hg)))), h.fit⟩
theorem IsPlate.below {w w' : World} {c : Nat} {sv wv : Value} {p : St} (h : IsPlate w c sv wv p) (hf : Below w.heap.size w w') : IsPlate w' c sv wv p :=
  h.keep (Fr.of_below hf (fun _ => False)) (fun _ _ h => h)
theorem IsPlate.lt {w : World} {c : Nat} {sv wv : Value} {p : St} (h : IsPlate w c sv wv p) {k : Nat} (hk : Own c sv wv k) : k < w.heap.size := by
  rcases hk with rfl | hk | hk
  · exact blk_lt h.blk
  · exact (h.srow.lt k hk).1
  · exact (h.wrow.lt k hk).1
theorem IsPlate.same {w w' : World} {c : Nat} {sv wv : Value} {p : St} (h : IsPlate w c sv wv p) (e : w'.heap = w.heap) : IsPlate w' c sv wv p :=
  ⟨by rw [e]; exact h.blk, h.srow.of (fun _ _ => by rw [e]), h.wrow.of (fun _ _ => by rw [e]), h.fit⟩
theorem cells6 {w : World} {g : Nat} {t : TypeId} {a b c d e f : Value} (h : w.heap[g]? = some (.cells #[a, b, c, d, e, f] t (0, 0))) : w.cell? ⟨g, 0, none⟩ = some a ∧ w.cell? ⟨g, 1, none⟩ = some b ∧ w.cell? ⟨g, 2, none⟩ = some c ∧ w.cell? ⟨g, 3, none⟩ = some d ∧ w.cell? ⟨g, 4, none⟩ = some e ∧ w.cell? ⟨g, 5, none⟩ = some f ∧ ∀ j, w.frozen? ⟨g, j, none⟩ = false :=
  ⟨(blk_cell h 0).trans rfl, (blk_cell h 1).trans rfl, (blk_cell h 2).trans rfl, (blk_cell h 3).trans rfl, (blk_cell h 4).trans rfl, (blk_cell h 5).trans rfl, fun j => blk_frozen h j⟩
/-- A cell of the plate's own block is written, that leads nowhere. -/
theorem IsPlate.put {w : World} {c : Nat} {sv wv : Value} {p p' : St} (h : IsPlate w c sv wv p) (j : Nat) (u : Value) (hs : p'.safe = p.safe) (hw : p'.wet = p.wet)
    (hc : (#[sv, wv, .int .i64 p.left, .bool p.off, .int .i64 p.acts, .int .i64 p.spare] : Array Value).setIfInBounds j u = #[sv, wv, .int .i64 p'.left, .bool p'.off, .int .i64 p'.acts, .int .i64 p'.spare]) : IsPlate (w.setCell ⟨c, j, none⟩ u) c sv wv p' := by
  refine ⟨by rw [← hc]; exact blk_put h.blk j u rfl, ?_, ?_, ⟨by rw [hs]; exact h.fit.sl, by rw [hw]; exact h.fit.wl, by rw [hs, hw]; exact h.fit.at_, by rw [hs]; exact h.fit.sn, by rw [hw]; exact h.fit.wn⟩⟩
  · rw [hs]; exact h.srow.of (fun g hg => Below.heap_setCell w _ _ g (fun e => h.srow.ne h.blk (by decide) (by rw [show c = g from e.symm]; exact hg)))
  · rw [hw]; exact h.wrow.of (fun g hg => Below.heap_setCell w _ _ g (fun e => h.wrow.ne h.blk (by decide) (by rw [show c = g from e.symm]; exact hg)))
theorem size_nil (w : World) : Calls Try.prog 20 #[.pointer none] w fun e w' => e = .returned (.int .i64 0) ∧ w' = w := by
  go_enter Try.func20, Try.ntmps20
  go_wp2
  go_ret
  exact ⟨rfl, rfl⟩
theorem acts_nil (w : World) : Calls Try.prog 21 #[.pointer none] w fun e w' => e = .returned (.int .i64 0) ∧ w' = w := by
  go_enter Try.func21, Try.ntmps21
  go_wp2
  go_ret
  exact ⟨rfl, rfl⟩
theorem wet_nil (w : World) : Calls Try.prog 22 #[.pointer none] w fun e w' => e = .returned (.int .i64 0) ∧ w' = w := by
  go_enter Try.func22, Try.ntmps22
  go_wp2
  go_ret
  exact ⟨rfl, rfl⟩
theorem on_nil (w : World) : Calls Try.prog 17 #[.pointer none] w fun e w' => e = .returned (.bool false) ∧ w' = w := by
  go_enter Try.func17, Try.ntmps17
  go_wp2
  go_ret
  exact ⟨rfl, rfl⟩
theorem act_nil (w : World) : Calls Try.prog 23 #[.pointer none] w fun e w' => e = .returned (.int .i64 7) ∧ w' = w := by
  go_enter Try.func23, Try.ntmps23
  go_wp2
  go_ret
  exact ⟨rfl, rfl⟩
theorem size_c {w : World} {c : Nat} {sv wv : Value} {p : St} (H : IsPlate w c sv wv p) : Calls Try.prog 20 #[.pointer (some ⟨c, 0, none⟩)] w fun e w' => e = .returned (.int .i64 p.safe.length) ∧ w' = w := by
  obtain ⟨A, cap, rfl⟩ := H.srow.form
  obtain ⟨h0, h1, h2, h3, h4, h5, hf⟩ := cells6 H.blk
  go_enter Try.func20, Try.ntmps20
  go_wp2
  go_ret
  exact ⟨rfl, rfl⟩
theorem acts_c {w : World} {c : Nat} {sv wv : Value} {p : St} (H : IsPlate w c sv wv p) : Calls Try.prog 21 #[.pointer (some ⟨c, 0, none⟩)] w fun e w' => e = .returned (.int .i64 p.acts) ∧ w' = w := by
  obtain ⟨h0, h1, h2, h3, h4, h5, hf⟩ := cells6 H.blk
  go_enter Try.func21, Try.ntmps21
  go_wp2
  go_ret
  exact ⟨rfl, rfl⟩
theorem wet_c {w : World} {c : Nat} {sv wv : Value} {p : St} (H : IsPlate w c sv wv p) : Calls Try.prog 22 #[.pointer (some ⟨c, 0, none⟩)] w fun e w' => e = .returned (.int .i64 p.wet.length) ∧ w' = w := by
  obtain ⟨A, cap, rfl⟩ := H.wrow.form
  obtain ⟨h0, h1, h2, h3, h4, h5, hf⟩ := cells6 H.blk
  go_enter Try.func22, Try.ntmps22
  go_wp2
  go_ret
  exact ⟨rfl, rfl⟩
theorem on_c {w : World} {c : Nat} {sv wv : Value} {p : St} (H : IsPlate w c sv wv p) : Calls Try.prog 17 #[.pointer (some ⟨c, 0, none⟩)] w fun e w' => e = .returned (.bool (!p.off)) ∧ w' = w := by
  obtain ⟨h0, h1, h2, h3, h4, h5, hf⟩ := cells6 H.blk
  go_enter Try.func17, Try.ntmps17
  go_wp2
  go_ret
  exact ⟨rfl, rfl⟩
/-- The greater one; the lesser one. -/
abbrev mx (x y : Int) : Int := if x < y then y else x
abbrev mn (x y : Int) : Int := if y < x then y else x
/-- One more act. -/
def St.act (p : St) : St × Int := if p.off = true then (p, 7) else if p.left = 0 then ({ p with off := true }, 7) else ({ p with left := mx (wrap64 (p.left - 1)) (-1), acts := wrap64 (p.acts + 1) }, 0)
theorem act_c {w : World} {c : Nat} {sv wv : Value} {p : St} (H : IsPlate w c sv wv p) : Calls Try.prog 23 #[.pointer (some ⟨c, 0, none⟩)] w fun e w' => e = .returned (.int .i64 p.act.2) ∧ IsPlate w' c sv wv p.act.1 ∧ Fr w w' (fun i => i = c) := by
  obtain ⟨safe, wet, left, off, acts, spare⟩ := p
  obtain ⟨h0, h1, h2, h3, h4, h5, hf⟩ := cells6 H.blk
  dsimp only at h2 h3 h4 h5
  cases off
  · by_cases hl : left = 0
    · subst hl
      rw [show St.act ⟨safe, wet, 0, false, acts, spare⟩ = (⟨safe, wet, 0, true, acts, spare⟩, 7) from by simp [St.act]]
      go_enter Try.func23, Try.ntmps23
      go_wp2
      go_ret
      exact ⟨rfl, H.put 3 (.bool true) rfl rfl rfl, (Fr.refl w (fun i => i = c)).set (p := ⟨c, 3, none⟩) (.inl rfl) _⟩
    · have hb : (left == 0) = false := beq_eq_false_iff_ne.mpr hl
      rw [show St.act ⟨safe, wet, left, false, acts, spare⟩ = (⟨safe, wet, mx (wrap64 (left - 1)) (-1), false, wrap64 (acts + 1), spare⟩, 0) from by simp [St.act, hl]]
      by_cases hm : wrap64 (left - 1) < -1
      all_goals
       go_enter Try.func23, Try.ntmps23
       go_wp2
       go_ret
       first
       | have em : mx (wrap64 (left - 1)) (-1) = -1 := if_pos (by omega)
       | have em : mx (wrap64 (left - 1)) (-1) = wrap64 (left - 1) := if_neg (by omega)
       have q1 := H.put (p' := ⟨safe, wet, mx (wrap64 (left - 1)) (-1), false, acts, spare⟩) 2 (.int .i64 (mx (wrap64 (left - 1)) (-1))) rfl rfl rfl
       have q2 := q1.put (p' := ⟨safe, wet, mx (wrap64 (left - 1)) (-1), false, wrap64 (acts + 1), spare⟩) 4 (.int .i64 (wrap64 (acts + 1))) rfl rfl rfl
       rw [em] at q2 ⊢
       exact ⟨rfl, q2, ((Fr.refl w (fun i => i = c)).set (p := ⟨c, 2, none⟩) (.inl rfl) _).set (p := ⟨c, 4, none⟩) (.inl rfl) _⟩
  · rw [show St.act ⟨safe, wet, left, true, acts, spare⟩ = (⟨safe, wet, left, true, acts, spare⟩, 7) from by simp [St.act]]
    go_enter Try.func23, Try.ntmps23
    go_wp2
    go_ret
    exact ⟨rfl, H, Fr.refl _ _⟩
def St.arm (p : St) (a s : Int) : St := { p with left := mx a (-1), spare := mx s 0 }
theorem arm_nil (a s : Int) (w : World) : Calls Try.prog 16 #[.pointer none, .int .i64 a, .int .i64 s] w fun e w' => e = .returned (.tuple #[]) ∧ w' = w := by
  go_enter Try.func16, Try.ntmps16
  go_wp2
  refine bodyPost_end (results_none rfl _ _ _) rfl ?_
  exact ⟨rfl, rfl⟩
theorem arm_c {w : World} {c : Nat} {sv wv : Value} {p : St} (H : IsPlate w c sv wv p) (a s : Int) : Calls Try.prog 16 #[.pointer (some ⟨c, 0, none⟩), .int .i64 a, .int .i64 s] w fun e w' => e = .returned (.tuple #[]) ∧ IsPlate w' c sv wv (p.arm a s) ∧ Fr w w' (fun i => i = c) := by
  obtain ⟨safe, wet, left, off, acts, spare⟩ := p
  obtain ⟨h0, h1, h2, h3, h4, h5, hf⟩ := cells6 H.blk
  have q1 := H.put (p' := ⟨safe, wet, mx a (-1), off, acts, spare⟩) 2 (.int .i64 (mx a (-1))) rfl rfl rfl
  have q2 := q1.put (p' := ⟨safe, wet, mx a (-1), off, acts, mx s 0⟩) 5 (.int .i64 (mx s 0)) rfl rfl rfl
  unfold St.arm
  have Q2 := Aside0.mk q2
  clear q1 q2
  by_cases ha : a < -1 <;> by_cases hs : s < 0
  all_goals
    go_enter Try.func16, Try.ntmps16
    go_wp2
    refine bodyPost_end (results_none rfl _ _ _) rfl ?_
    have q2 := Q2.out
    first
    | have ea : mx a (-1) = -1 := if_pos (by omega)
    | have ea : mx a (-1) = a := if_neg (by omega)
    first
    | have es : mx s 0 = 0 := if_pos (by omega)
    | have es : mx s 0 = s := if_neg (by omega)
    rw [ea, es] at q2 ⊢
    exact ⟨rfl, q2, ((Fr.refl w (fun i => i = c)).set (p := ⟨c, 2, none⟩) (.inl rfl) _).set (p := ⟨c, 5, none⟩) (.inl rfl) _⟩
end Go.Proofs.Ytcobkideokljfaa
