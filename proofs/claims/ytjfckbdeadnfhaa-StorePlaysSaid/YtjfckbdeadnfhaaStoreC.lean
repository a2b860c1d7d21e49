/- The store as a state: what was said of each cycle, and for which something is laid aside. -/
import Derived.Test.YtjfckbdeadnfhaaStoreB
namespace Go.Proofs.Ytjfckbdeadnfhaa
open Go.RowKit Go.Maps Go.Proofs.YtjfckbdeadnfhaaW.PrintWords
set_option linter.unusedVariables false

noncomputable def kOf (s y : Int) : Lit := (keyOf Try.prog 49 (.agg #[.int .i64 s, .int .i64 y])).getD (.bool false)
theorem cells49 : Try.prog.cellsOf 49 = 2 := by kernel_rfl
theorem cells3 : Try.prog.cellsOf 3 = 1 := by kernel_rfl
theorem lits_some (m : Nat) (s y : Int) (hs : (Lit.int .i64 s).wf = true) (hy : (Lit.int .i64 y).wf = true) : Try.prog.keyLits (m + 1 + 1) 49 [.int .i64 s, .int .i64 y] = some [.int .i64 s, .int .i64 y] := by
  have h3 : ∀ a : Int, (Lit.int .i64 a).wf = true → Try.prog.keyLits (m + 1) 3 [.int .i64 a] = some [.int .i64 a] := by
    intro a ha
    unfold Program.keyLits
    simp [Try.underlying3, ha]
  unfold Program.keyLits
  simp [Try.underlying49, cells49, cells3, h3 s hs, h3 y hy]
theorem key_some (s y : Int) (hs : (Lit.int .i64 s).wf = true) (hy : (Lit.int .i64 y).wf = true) : keyOf Try.prog 49 (.agg #[.int .i64 s, .int .i64 y]) = some (kOf s y) := by
  have h : ∃ l, keyOf Try.prog 49 (.agg #[.int .i64 s, .int .i64 y]) = some l := by
    have h1 : Try.prog.keyType 49 = true := by kernel_rfl
    have h2 : (Value.agg #[.int .i64 s, .int .i64 y]).formed Try.prog 49 = true := by
      unfold Value.formed; rw [Try.underlying49]; simp [cells49]
    obtain ⟨m, hm⟩ : ∃ m, Try.prog.types.size + 1 = m + 1 + 1 := ⟨Try.prog.types.size - 1, by have := row49; omega⟩
    unfold keyOf
    rw [Try.underlying49]
    simp only [h1, h2, Bool.and_self, if_true, hm]
    exact ⟨_, by simp only [Value.cells]; rw [lits_some m s y hs hy]; rfl⟩
  obtain ⟨l, hl⟩ := h
  simp [kOf, hl]
theorem kOf_inj {s y s' y' : Int} (hs : (Lit.int .i64 s).wf = true) (hy : (Lit.int .i64 y).wf = true) (hs' : (Lit.int .i64 s').wf = true) (hy' : (Lit.int .i64 y').wf = true) (h : kOf s y = kOf s' y') : s = s' ∧ y = y' := by
  have := lawK.inj (key_some s y hs hy) (h ▸ key_some s' y' hs' hy')
  simpa using this

/-- What a map of what was said holds. -/
def Says (D : DataW Unit) (f : Int → Int → Option Int) : Prop :=
  IsMap D ∧ ∀ s y, (Lit.int .i64 s).wf = true → (Lit.int .i64 y).wf = true → Maps.has D (kOf s y) = (f s y).isSome ∧ ∀ u, f s y = some u → D.atKey (kOf s y) (.lit (.int .u8 0)) = .lit (.int .u8 u)
noncomputable def upd (f : Int → Int → Option Int) (s y u : Int) : Int → Int → Option Int := fun a b => if a = s ∧ b = y then some u else f a b
theorem Says.put {D : DataW Unit} {f : Int → Int → Option Int} (h : Says D f) {s y : Int} (hs : (Lit.int .i64 s).wf = true) (hy : (Lit.int .i64 y).wf = true) (u : Int) : Says (D.put (kOf s y) (.lit (.int .u8 u))) (upd f s y u) := by
  obtain ⟨h1, h2⟩ := h
  refine ⟨h1.put _ _, fun a b ha hb => ?_⟩
  by_cases e : a = s ∧ b = y
  · obtain ⟨rfl, rfl⟩ := e
    have hk := lawK.key (key_some a b ha hb)
    refine ⟨?_, fun v hv => ?_⟩
    · rw [has_put_same h1 hk]; simp [upd]
    · rw [atKey_put_same h1 hk]; simp [upd] at hv; rw [hv]
  · have hne : kOf a b ≠ kOf s y := fun he => e (kOf_inj ha hb hs hy he)
    have hu : upd f s y u a b = f a b := by simp [upd, e]
    rw [hu, has_put_other hne]
    refine ⟨(h2 a b ha hb).1, fun v hv => ?_⟩
    rw [atKey_put_other hne]; exact (h2 a b ha hb).2 v hv
theorem Says.empty : Says (.map []) (fun _ _ => none) := ⟨isMap_empty, fun s y _ _ => ⟨rfl, fun u h => by cases h⟩⟩


/-- What a map of what is aside holds. -/
def SaysA (D : DataW Unit) (A : Int → Int → Bool) (m : Nat) : Prop :=
  Tidy D ∧ (∀ s y, (Lit.int .i64 s).wf = true → (Lit.int .i64 y).wf = true → Maps.has D (kOf s y) = A s y ∧ D.atKey (kOf s y) (.lit (.bool false)) = .lit (.bool (A s y))) ∧ Maps.size D = m
noncomputable def updA (A : Int → Int → Bool) (s y : Int) (x : Bool) : Int → Int → Bool := fun a b => if a = s ∧ b = y then x else A a b
theorem SaysA.put {D : DataW Unit} {A : Int → Int → Bool} {m : Nat} (h : SaysA D A m) {s y : Int} (hs : (Lit.int .i64 s).wf = true) (hy : (Lit.int .i64 y).wf = true) : SaysA (D.put (kOf s y) (.lit (.bool true))) (updA A s y true) (if A s y = true then m else m + 1) := by
  obtain ⟨h1, h2, h3⟩ := h
  have hk := lawK.key (key_some s y hs hy)
  refine ⟨h1.put hk _, fun a b ha hb => ?_, ?_⟩
  · by_cases e : a = s ∧ b = y
    · obtain ⟨rfl, rfl⟩ := e
      rw [has_put_same h1.isMap hk, atKey_put_same h1.isMap hk]
      simp [updA]
    · have hne : kOf a b ≠ kOf s y := fun he => e (kOf_inj ha hb hs hy he)
      have hu : updA A s y true a b = A a b := by simp [updA, e]
      rw [hu, has_put_other hne, atKey_put_other hne]; exact h2 a b ha hb
  · rw [size_put h1, (h2 s y hs hy).1, h3]
theorem SaysA.del {D : DataW Unit} {A : Int → Int → Bool} {m : Nat} (h : SaysA D A m) {s y : Int} (hs : (Lit.int .i64 s).wf = true) (hy : (Lit.int .i64 y).wf = true) : SaysA (D.del (kOf s y)) (updA A s y false) (if A s y = true then m - 1 else m) := by
  obtain ⟨h1, h2, h3⟩ := h
  have hk := lawK.key (key_some s y hs hy)
  refine ⟨h1.del _, fun a b ha hb => ?_, ?_⟩
  · by_cases e : a = s ∧ b = y
    · obtain ⟨rfl, rfl⟩ := e
      rw [has_del_same, atKey_del_same]
      simp [updA]
    · have hne : kOf a b ≠ kOf s y := fun he => e (kOf_inj ha hb hs hy he)
      have hu : updA A s y false a b = A a b := by simp [updA, e]
      rw [hu, has_del_other hne, atKey_del_other hne]; exact h2 a b ha hb
  · have := size_del (k := kOf s y) h1
    rw [(h2 s y hs hy).1, h3] at this
    split at this <;> simp_all <;> omega
theorem SaysA.empty : SaysA (.map []) (fun _ _ => false) 0 := ⟨tidy_empty, fun s y _ _ => ⟨rfl, rfl⟩, rfl⟩

/-- Block c is a store: what was said is f; what is aside is A, m of it; all that is the store's lies in S. -/
structure IsStore (w : World) (base c : Nat) (f : Int → Int → Option Int) (A : Int → Int → Bool) (m n : Nat) (S : Nat → Prop) : Prop where
  ex : ∃ bm ba D1 D2, bm ≠ ba ∧ w.heap[c]? = some (.cells #[.map (some bm), .map (some ba)] 47 (0, 0)) ∧ w.ownsMap Try.prog 49 (plainElem Try.prog 5) bm n D1 ∧ w.ownsMap Try.prog 49 (plainElem Try.prog 4) ba n D2 ∧ Says D1 f ∧ SaysA D2 A m ∧ S c ∧ S bm ∧ S ba
  lo : ∀ g, S g → base ≤ g
  hi : ∀ g, S g → g < w.heap.size
theorem IsStore.kept {w w' : World} {base c m n : Nat} {f : Int → Int → Option Int} {A : Int → Int → Bool} {S S' : Nat → Prop} (h : IsStore w base c f A m n S) (k : Fr w w' S') (hs : ∀ g, S g → ¬ S' g) : IsStore w' base c f A m n S := by
  obtain ⟨bm, ba, D1, D2, h0, h1, h2, h3, h4, h5, h6, h7, h8⟩ := h.ex
  exact ⟨⟨bm, ba, D1, D2, h0, k.at h1 (hs c h6), map_of h2 (k.block bm h2.lt (hs bm h7)), map_of h3 (k.block ba h3.lt (hs ba h8)), h4, h5, h6, h7, h8⟩, h.lo, fun g hg => Nat.lt_of_lt_of_le (h.hi g hg) k.size⟩
theorem IsStore.alloc {w : World} {base c m n : Nat} {f : Int → Int → Option Int} {A : Int → Int → Bool} {S : Nat → Prop} (h : IsStore w base c f A m n S) (o : Obj) : IsStore (w.alloc o) base c f A m n S :=
  h.kept (S' := fun _ => False) (Fr.of_below (below_alloc (Below.refl _ _) _) _) (fun _ _ h => h)
theorem IsStore.below {w w' : World} {base c m n : Nat} {f : Int → Int → Option Int} {A : Int → Int → Bool} {S : Nat → Prop} (h : IsStore w base c f A m n S) (hb : Below w.heap.size w w') : IsStore w' base c f A m n S :=
  h.kept (S' := fun _ => False) (Fr.of_below hb _) (fun _ _ h => h)
theorem IsStore.drew {w : World} {base c m n : Nat} {f : Int → Int → Option Int} {A : Int → Int → Bool} {S : Nat → Prop} (h : IsStore w base c f A m n S) : IsStore w.drew base c f A m n S := ⟨h.ex, h.lo, h.hi⟩
theorem Fr.drew {a w : World} {S : Nat → Prop} (h : Fr a w S) : Fr a w.drew S := ⟨h.os, h.tape, h.output, h.size, h.block⟩

def hV (f : Int → Int → Option Int) (k s y v : Int) : Int := if k = 4 then 1 else match f s y with | some u => u | none => if v = 1 then 1 else 3
noncomputable def hF (f : Int → Int → Option Int) (k s y v : Int) : Int → Int → Option Int := match f s y with | some _ => f | none => upd f s y (if k = 4 then 3 else if v = 1 then 1 else 3)
noncomputable def hA (f : Int → Int → Option Int) (A : Int → Int → Bool) (k s y v : Int) : Int → Int → Bool := if k = 4 then updA A s y false else match f s y with | some _ => A | none => if v = 1 then updA A s y true else A
noncomputable def hM (f : Int → Int → Option Int) (A : Int → Int → Bool) (m : Nat) (k s y v : Int) : Nat := if k = 4 then (if A s y = true then m - 1 else m) else match f s y with | some _ => m | none => if v = 1 then (if A s y = true then m else m + 1) else m

theorem hear_store {base c m n : Nat} {f : Int → Int → Option Int} {A : Int → Int → Bool} {S : Nat → Prop} (k s y t a v : Int) (w : World) (hk : k = 3 ∨ k = 4) (hs : (Lit.int .i64 s).wf = true) (hy : (Lit.int .i64 y).wf = true) (h : IsStore w base c f A m n S) (hn : n < 900) :
    Calls Try.prog 9 #[.pointer (some ⟨c, 0, none⟩), nt k s y t a 0, .int .u8 v] w fun e w' => e = .returned (.tuple #[nt k s y t a (hV f k s y v), .bool true]) ∧ IsStore w' base c (hF f k s y v) (hA f A k s y v) (hM f A m k s y v) (n + 1) S ∧ Fr w w' S := by
  obtain ⟨bm, ba, D1, D2, h0, h1, h2, h3, h4, h5, h6, h7, h8⟩ := h.ex
  have hkey := key_some s y hs hy
  have hh := (h4.2 s y hs hy).1
  have hnm : n < maxLen := by unfold maxLen; omega
  have hS : ∀ i, (i = bm ∨ i = ba) → S i := fun i hi => by rcases hi with rfl | rfl <;> assumption
  have nc : ¬ (c = bm ∨ c = ba) := fun e => by
    rcases e with rfl | rfl
    · exact ne_map h2 h1 rfl
    · exact ne_map h3 h1 rfl
  rcases hk with rfl | rfl
  · cases hf : f s y with
    | some u =>
      rw [hf] at hh
      refine (hear_known c bm ba n n D1 D2 3 s y t a 0 v (kOf s y) w (by decide) h0 h1 h2 h3 hkey (by decide) (by decide) u hh ((h4.2 s y hs hy).2 u hf)).mono fun e w' ⟨he, g2, g3, g4⟩ => ?_
      refine ⟨by rw [he]; simp [hV, hf], ⟨⟨bm, ba, D1, D2, h0, g4.at h1 nc, g2.mono (Nat.le_succ _), g3.mono (Nat.le_succ _), by simpa [hF, hf] using h4, by simpa [hA, hM, hf] using h5, h6, h7, h8⟩, h.lo, fun g hg => Nat.lt_of_lt_of_le (h.hi g hg) g4.size⟩, g4.mono hS⟩
    | none =>
      rw [hf] at hh
      by_cases hv : v = 1
      · subst hv
        refine (hear_yes c bm ba n n D1 D2 3 s y t a 0 1 (kOf s y) w (by decide) h0 h1 h2 h3 hkey (by decide) (by decide) hh (by decide) hnm hnm).mono fun e w' ⟨he, g2, g3, g4⟩ => ?_
        refine ⟨by rw [he]; simp [hV, hf], ⟨⟨bm, ba, _, _, h0, g4.at h1 nc, g2, g3, by simpa [hF, hf] using h4.put hs hy 1, by simpa [hA, hM, hf] using h5.put hs hy, h6, h7, h8⟩, h.lo, fun g hg => Nat.lt_of_lt_of_le (h.hi g hg) g4.size⟩, g4.mono hS⟩
      · refine (hear_no c bm ba n n D1 D2 3 s y t a 0 v (kOf s y) w (by decide) h0 h1 h2 h3 hkey (by decide) (by decide) hh (by simpa using hv) hnm).mono fun e w' ⟨he, g2, g3, g4⟩ => ?_
        refine ⟨by rw [he]; simp [hV, hf, hv], ⟨⟨bm, ba, _, _, h0, g4.at h1 nc, g2, g3.mono (Nat.le_succ _), by simpa [hF, hf, hv] using h4.put hs hy 3, by simpa [hA, hM, hf, hv] using h5, h6, h7, h8⟩, h.lo, fun g hg => Nat.lt_of_lt_of_le (h.hi g hg) g4.size⟩, g4.mono hS⟩
  · cases hf : f s y with
    | some u =>
      rw [hf] at hh
      refine (back_known c bm ba n n D1 D2 4 s y t a 0 v (kOf s y) w (by decide) h0 h1 h2 h3 hkey (by decide) (by decide) (by decide) u hh ((h4.2 s y hs hy).2 u hf)).mono fun e w' ⟨he, g2, g3, g4⟩ => ?_
      refine ⟨by rw [he]; simp [hV], ⟨⟨bm, ba, _, _, h0, g4.at h1 nc, g2.mono (Nat.le_succ _), g3.mono (Nat.le_succ _), by simpa [hF, hf] using h4, by simpa [hA, hM] using h5.del hs hy, h6, h7, h8⟩, h.lo, fun g hg => Nat.lt_of_lt_of_le (h.hi g hg) g4.size⟩, g4.mono hS⟩
    | none =>
      rw [hf] at hh
      refine (back_new c bm ba n n D1 D2 4 s y t a 0 v (kOf s y) w (by decide) h0 h1 h2 h3 hkey (by decide) (by decide) (by decide) hh hnm).mono fun e w' ⟨he, g2, g3, g4⟩ => ?_
      refine ⟨by rw [he]; simp [hV], ⟨⟨bm, ba, _, _, h0, g4.at h1 nc, g2, g3.mono (Nat.le_succ _), by simpa [hF, hf] using h4.put hs hy 3, by simpa [hA, hM] using h5.del hs hy, h6, h7, h8⟩, h.lo, fun g hg => Nat.lt_of_lt_of_le (h.hi g hg) g4.size⟩, g4.mono hS⟩

theorem new_store (w : World) {base : Nat} (hb : base ≤ w.heap.size) : Calls Try.prog 8 #[] w fun e w' => ∃ c S, e = .returned (.pointer (some ⟨c, 0, none⟩)) ∧ IsStore w' base c (fun _ _ => none) (fun _ _ => false) 0 0 S ∧ Below w.heap.size w w' ∧ ∀ g, S g → w.heap.size ≤ g := by
  refine (new_any w).mono fun e w' ⟨he, hw⟩ => ?_
  subst hw
  refine ⟨_, fun g => g = w.heap.size ∨ g = w.heap.size + 1 ∨ g = w.heap.size + 1 + 1, he, ⟨⟨w.heap.size, w.heap.size + 1, .map [], .map [], by omega, ?_, ?_, ?_, Says.empty, SaysA.empty, .inr (.inr rfl), .inl rfl, .inr (.inl rfl)⟩, ?_, ?_⟩, below_alloc (below_alloc (below_alloc (Below.refl _ _) _) _) _, ?_⟩
  · simpa using blk_new ((w.alloc (.map #[] 0)).alloc (.map #[] 0)) (.cells #[.map (some w.heap.size), .map (some (w.heap.size + 1))] 47 (0, 0))
  · exact ((World.ownsMap_made w _ _ _).alloc _).alloc _
  · have := (World.ownsMap_made (H := Unit) (w.alloc (.map #[] 0)) Try.prog 49 (plainElem Try.prog 4)).alloc (.cells #[.map (some w.heap.size), .map (some (w.heap.size + 1))] 47 (0, 0))
    simpa using this
  · rintro g (rfl | rfl | rfl) <;> omega
  · rintro g (rfl | rfl | rfl)
    · first | (simp; done) | (simp; omega)
    · first | (simp; done) | (simp; omega)
    · first | (simp; done) | (simp; omega)
  · rintro g (rfl | rfl | rfl) <;> omega
theorem aside_store {base c m n : Nat} {f : Int → Int → Option Int} {A : Int → Int → Bool} {S : Nat → Prop} (s y : Int) (w : World) (hs : (Lit.int .i64 s).wf = true) (hy : (Lit.int .i64 y).wf = true) (h : IsStore w base c f A m n S) :
    Calls Try.prog 10 #[.pointer (some ⟨c, 0, none⟩), .int .i64 s, .int .i64 y] w fun e w' => e = .returned (.bool (A s y)) ∧ w' = w := by
  obtain ⟨bm, ba, D1, D2, h0, h1, h2, h3, h4, h5, h6, h7, h8⟩ := h.ex
  exact aside_any c ba n D2 _ s y (kOf s y) (A s y) w h1 h3 (key_some s y hs hy) (h5.2.1 s y hs hy).2
theorem count_store {base c m n : Nat} {f : Int → Int → Option Int} {A : Int → Int → Bool} {S : Nat → Prop} (w : World) (h : IsStore w base c f A m n S) :
    Calls Try.prog 11 #[.pointer (some ⟨c, 0, none⟩)] w fun e w' => e = .returned (.int .i64 m) ∧ w' = w := by
  obtain ⟨bm, ba, D1, D2, h0, h1, h2, h3, h4, h5, h6, h7, h8⟩ := h.ex
  have := count_any c ba n D2 _ w h1 h3
  rw [h5.2.2] at this
  exact this
end Go.Proofs.Ytjfckbdeadnfhaa
