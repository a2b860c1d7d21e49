/- The cart as a state: what was said to each trip, and the trips in order; Trips and Sent over it. -/
import Derived.Test.YtmenfodphooacaaCartB
import Derived.LoopTactic
import Derived.Laws.StructEq
namespace Go.Proofs.Ytmenfodphooacaa
open Go.RowKit Go.Maps Go.Proofs.YtmenfodphooacaaW.PrintWords
set_option linter.unusedVariables false

noncomputable def kOf (s y : Int) : Lit := (keyOf Try.prog 32 (.agg #[.int .i64 s, .int .i64 y])).getD (.bool false)
theorem cells32 : Try.prog.cellsOf 32 = 2 := by kernel_rfl
theorem cells3 : Try.prog.cellsOf 3 = 1 := by kernel_rfl
theorem lits_some (m : Nat) (s y : Int) (hs : (Lit.int .i64 s).wf = true) (hy : (Lit.int .i64 y).wf = true) : Try.prog.keyLits (m + 1 + 1) 32 [.int .i64 s, .int .i64 y] = some [.int .i64 s, .int .i64 y] := by
  have h3 : ∀ a : Int, (Lit.int .i64 a).wf = true → Try.prog.keyLits (m + 1) 3 [.int .i64 a] = some [.int .i64 a] := by
    intro a ha
    unfold Program.keyLits
    simp [Try.underlying3, ha]
  unfold Program.keyLits
  simp [Try.underlying32, cells32, cells3, h3 s hs, h3 y hy]
theorem key_some (s y : Int) (hs : (Lit.int .i64 s).wf = true) (hy : (Lit.int .i64 y).wf = true) : keyOf Try.prog 32 (.agg #[.int .i64 s, .int .i64 y]) = some (kOf s y) := by
  have h : ∃ l, keyOf Try.prog 32 (.agg #[.int .i64 s, .int .i64 y]) = some l := by
    have h1 : Try.prog.keyType 32 = true := by kernel_rfl
    have h2 : (Value.agg #[.int .i64 s, .int .i64 y]).formed Try.prog 32 = true := by
      unfold Value.formed; rw [Try.underlying32]; simp [cells32]
    obtain ⟨m, hm⟩ : ∃ m, Try.prog.types.size + 1 = m + 1 + 1 := ⟨Try.prog.types.size - 1, by have := row32; omega⟩
    unfold keyOf
    rw [Try.underlying32]
    simp only [h1, h2, Bool.and_self, if_true, hm]
    exact ⟨_, by simp only [Value.cells]; rw [lits_some m s y hs hy]; rfl⟩
  obtain ⟨l, hl⟩ := h
  simp [kOf, hl]
theorem kOf_inj {s y s' y' : Int} (hs : (Lit.int .i64 s).wf = true) (hy : (Lit.int .i64 y).wf = true) (hs' : (Lit.int .i64 s').wf = true) (hy' : (Lit.int .i64 y').wf = true) (h : kOf s y = kOf s' y') : s = s' ∧ y = y' := by
  have := lawK.inj (key_some s y hs hy) (h ▸ key_some s' y' hs' hy')
  simpa using this

/-- What a map of what was said holds. -/
def Says (D : DataW Unit) (f : Int → Int → Option Int) : Prop :=
  IsMap D ∧ ∀ s y, (Lit.int .i64 s).wf = true → (Lit.int .i64 y).wf = true → Maps.has D (kOf s y) = (f s y).isSome ∧ ∀ u, f s y = some u → D.atKey (kOf s y) (.lit (.int .u8 0)) = .lit (.int .u8 u)
noncomputable def upd (f : Int → Int → Option Int) (s y u : Int) : Int → Int → Option Int := fun a b => if a = s ∧ b = y then some u else f a b
theorem Says.put {D : DataW Unit} {f : Int → Int → Option Int} (h : Says D f) {s y : Int} (hs : (Lit.int .i64 s).wf = true) (hy : (Lit.int .i64 y).wf = true) (u : Int) : Says (D.put (kOf s y) (.lit (.int .u8 u))) (upd f s y u) := by
  obtain ⟨h1, h2⟩ := h
  refine ⟨h1.put _ _, fun a b ha hb => ?_⟩
  by_cases e : a = s ∧ b = y
  · obtain ⟨rfl, rfl⟩ := e
    have hk := lawK.key (key_some a b ha hb)
    refine ⟨?_, fun v hv => ?_⟩
    · rw [has_put_same h1 hk]; simp [upd]
    · rw [atKey_put_same h1 hk]; simp [upd] at hv; rw [hv]
  · have hne : kOf a b ≠ kOf s y := fun he => e (kOf_inj ha hb hs hy he)
    have hu : upd f s y u a b = f a b := by simp [upd, e]
    rw [hu, has_put_other hne]
    refine ⟨(h2 a b ha hb).1, fun v hv => ?_⟩
    rw [atKey_put_other hne]; exact (h2 a b ha hb).2 v hv
theorem Says.empty : Says (.map []) (fun _ _ => none) := ⟨isMap_empty, fun s y _ _ => ⟨rfl, fun u h => by cases h⟩⟩

def cellsOf (l : List (Int × Int)) : List Value := l.flatMap fun p => [.int .i64 p.1, .int .i64 p.2]
theorem cellsOf_snoc (l : List (Int × Int)) (s y : Int) : cellsOf (l ++ [(s, y)]) = cellsOf l ++ [.int .i64 s, .int .i64 y] := by simp [cellsOf]
theorem cellsOf_len (l : List (Int × Int)) : (cellsOf l).length = l.length * 2 := by induction l with | nil => rfl | cons a l ih => simp [cellsOf] at *; omega
theorem cellsOf_at (l : List (Int × Int)) (i : Nat) (h : i < l.length) : (cellsOf l)[i * 2]? = some (.int .i64 l[i].1) ∧ (cellsOf l)[i * 2 + 1]? = some (.int .i64 l[i].2) := by
  induction l generalizing i with
  | nil => simp at h
  | cons a l ih =>
    cases i with
    | zero => simp [cellsOf]
    | succ i =>
      have := ih i (by simpa using h)
      rw [show (i + 1) * 2 = i * 2 + 1 + 1 by omega]
      simpa [cellsOf] using this
theorem cellsOf_one (l : List (Int × Int)) : ∀ u ∈ cellsOf l, u.oneCell' = true := by
  intro u hu
  simp only [cellsOf, List.mem_flatMap] at hu
  obtain ⟨p, _, hp⟩ := hu
  simp at hp
  rcases hp with rfl | rfl <;> rfl

/-- Block c is a cart: what was said is f, what was sent is l; all that is the cart's lies in S. -/
structure IsCart (w : World) (base c : Nat) (f : Int → Int → Option Int) (l : List (Int × Int)) (n : Nat) (S : Nat → Prop) : Prop where
  ex : ∃ bm lv D, w.heap[c]? = some (.cells #[.map (some bm), lv] 42 (0, 0)) ∧ w.ownsMap Try.prog 32 (plainElem Try.prog 5) bm n D ∧ Says D f ∧ w.ownsRow base 32 2 lv l.length (cellsOf l) ∧ (l = [] → lv = .slice none 0 0) ∧ S c ∧ S bm ∧ (∀ g, some g = lv.ownBlock → S g)
  small : l.length ≤ n
  lo : ∀ g, S g → base ≤ g
  hi : ∀ g, S g → g < w.heap.size
theorem IsCart.kept {w w' : World} {base c n : Nat} {f : Int → Int → Option Int} {l : List (Int × Int)} {S S' : Nat → Prop} (h : IsCart w base c f l n S) (k : Fr w w' S') (hs : ∀ g, S g → ¬ S' g) : IsCart w' base c f l n S := by
  obtain ⟨bm, lv, D, h1, h2, h3, h4, h5, h6, h7, h8⟩ := h.ex
  exact ⟨⟨bm, lv, D, k.at h1 (hs c h6), map_of h2 (k.block bm h2.lt (hs bm h7)), h3, row_of h4 (fun g hg => k.block g (row_lt h4 g hg) (hs g (h8 g hg))), h5, h6, h7, h8⟩, h.small, h.lo, fun g hg => Nat.lt_of_lt_of_le (h.hi g hg) k.size⟩

def hearV (f : Int → Int → Option Int) (s y v : Int) : Int := match f s y with | some u => u | none => if v = 1 then 1 else 3
noncomputable def hearF (f : Int → Int → Option Int) (s y v : Int) : Int → Int → Option Int := match f s y with | some _ => f | none => upd f s y (if v = 1 then 1 else 3)
def hearL (f : Int → Int → Option Int) (l : List (Int × Int)) (s y v : Int) : List (Int × Int) := match f s y with | some _ => l | none => if v = 1 then l ++ [(s, y)] else l

theorem hear_cart {base c n : Nat} {f : Int → Int → Option Int} {l : List (Int × Int)} {S : Nat → Prop} (s y t a v : Int) (w : World) (hs : (Lit.int .i64 s).wf = true) (hy : (Lit.int .i64 y).wf = true) (h : IsCart w base c f l n S) (hb : base ≤ w.heap.size) (hn : n < 900) :
    Calls Try.prog 8 #[.pointer (some ⟨c, 0, none⟩), nt 5 s y t a 0, .int .u8 v] w fun e w' => e = .returned (.tuple #[nt 5 s y t a (hearV f s y v), .bool true]) ∧ ∃ S', IsCart w' base c (hearF f s y v) (hearL f l s y v) (n + 1) S' ∧ Fr w w' S ∧ (∀ g, S' g → S g ∨ w.heap.size ≤ g) := by
  obtain ⟨bm, lv, D, h1, h2, h3, h4, h5, h6, h7, h8⟩ := h.ex
  have hk := key_some s y hs hy
  have hh := (h3.2 s y hs hy).1
  cases hf : f s y with
  | some u =>
    rw [hf] at hh
    refine (hear_known c bm n D lv 5 s y t a 0 v (kOf s y) u w (by decide) (by decide) h1 h2 hk hh ((h3.2 s y hs hy).2 u hf)).mono fun e w' ⟨he, hB⟩ => ?_
    have k : Fr w w' S := Fr.of_below hB S
    have k0 : Fr w w' (fun _ => False) := Fr.of_below hB _
    have k1 := h.kept k0 (fun _ _ h => h)
    refine ⟨by rw [he]; simp [hearV, hf], S, ⟨?_, ?_, k1.lo, k1.hi⟩, k, fun g hg => .inl hg⟩
    · obtain ⟨bm, lv, D, h1, h2, h3, h4, h5, h6, h7, h8⟩ := k1.ex
      simp only [hearF, hearL, hf]
      exact ⟨bm, lv, D, h1, h2.mono (Nat.le_succ _), h3, h4, h5, h6, h7, h8⟩
    · simp only [hearL, hf]; exact Nat.le_succ_of_le h.small
  | none =>
    rw [hf] at hh
    by_cases hv : v = 1
    · subst hv
      refine (hear_yes c bm n D lv 5 s y t a 0 1 (kOf s y) w (by decide) (by decide) h1 h2 hk hh (by decide) l.length (cellsOf l) base h4 hb (by have := h.small; omega) (by unfold maxLen; omega)).mono fun e w' ⟨he, lv', g1, g2, g3, g4, g5⟩ => ?_
      have hS : ∀ i, (i = bm ∨ i = c ∨ some i = lv.ownBlock) → S i := fun i hi => by
        rcases hi with rfl | rfl | hi
        · exact h7
        · exact h6
        · exact h8 i hi
      refine ⟨by rw [he]; simp [hearV, hf], fun g => S g ∨ (w.heap.size ≤ g ∧ g < w'.heap.size), ⟨?_, ?_, ?_, ?_⟩, g5.mono hS, fun g hg => hg.imp id (·.1)⟩
      · simp only [hearF, hearL, hf, if_true]
        refine ⟨bm, lv', _, g1, g2, h3.put hs hy 1, ?_, fun h => by simp at h, .inl h6, .inl h7, fun g hg => ?_⟩
        · rw [cellsOf_snoc]; simpa using g3
        · rcases g4 with e1 | ⟨b, e1, e2⟩
          · exact .inl (h8 g (by rw [hg, e1]))
          · rw [e1] at hg; injection hg with hg; subst hg
            exact .inr ⟨e2, row_lt g3 g (by rw [e1])⟩
      · simp only [hearL, hf, if_true]; have := h.small; simp; omega
      · rintro g (hg | hg)
        · exact h.lo g hg
        · exact Nat.le_trans hb hg.1
      · rintro g (hg | hg)
        · exact Nat.lt_of_lt_of_le (h.hi g hg) g5.size
        · exact hg.2
    · refine (hear_no c bm n D lv 5 s y t a 0 v (kOf s y) w (by decide) (by decide) h1 h2 hk hh (by simpa using hv) (by unfold maxLen; omega)).mono fun e w' ⟨he, g2, g5⟩ => ?_
      refine ⟨by rw [he]; simp [hearV, hf, hv], S, ⟨?_, ?_, h.lo, fun g hg => Nat.lt_of_lt_of_le (h.hi g hg) g5.size⟩, g5.mono (fun i hi => by rw [hi]; exact h7), fun g hg => .inl hg⟩
      · simp only [hearF, hearL, hf, if_neg hv]
        have nc : c ≠ bm := fun e => ne_map h2 h1 (by rw [e])
        exact ⟨bm, lv, _, g5.at h1 nc, g2, h3.put hs hy 3, row_of h4 (fun g hg => g5.block g (row_lt h4 g hg) (fun e => row_map h4 h2 (by rw [← e]; exact hg))), h5, h6, h7, h8⟩
      · simp only [hearL, hf, if_neg hv]; exact Nat.le_succ_of_le h.small
end Go.Proofs.Ytmenfodphooacaa
