/- A plate: Write whole, Same, and what a law keeps. -/
import Derived.Test.YtcobkideokljfaaPlateF
namespace Go.Proofs.Ytcobkideokljfaa
open Go.RowKit Go.Proofs.YtcobkideokljfaaW.PrintWords
set_option linter.unusedVariables false
set_option linter.unusedSimpArgs false
set_option maxHeartbeats 8000000 in
set_option maxRecDepth 100000 in
theorem write_c {w : World} {c : Nat} {sv wv : Value} {p : St} (H : IsPlate w c sv wv p) (x : Nat) (hx : x < p.safe.length) (bs : List Int) (hbn : bs.length ≤ 64) (hwn : p.wet.length < 1000) (A : Option Addr) (cb : Nat)
    (hsrc : Kd.C (Kd.int .u8) w A bs.length bs) :
    Calls Try.prog 10 #[.pointer (some ⟨c, 0, none⟩), .int .i64 x, .slice A bs.length cb] w fun e w' => e = .returned (.int .i64 (p.write x bs).2) ∧ ∃ wv', IsPlate w' c sv wv' (p.write x bs).1 ∧ Fr w w' (Own c sv wv) ∧ (∀ k, Own c sv wv' k → Own c sv wv k ∨ w.heap.size ≤ k) := by
  rcases (act_wet p).2.2.2 with ha | ha
  · exact write_ok H x hx bs hbn hwn A cb hsrc ha
  · by_cases ht : p.off = false ∧ 0 < p.spare
    · exact write_torn H x hx bs hbn hwn A cb hsrc ha ht.1 ht.2
    · exact write_off H x hx bs hbn hwn A cb hsrc ha ht
theorem write_bad {w : World} {c : Nat} {sv wv : Value} {p : St} (H : IsPlate w c sv wv p) (x : Int) (A : Option Addr) (n cb : Nat) (h : x < 0 ∨ (p.safe.length : Int) ≤ x ∨ 64 < n) :
    Calls Try.prog 10 #[.pointer (some ⟨c, 0, none⟩), .int .i64 x, .slice A n cb] w fun e w' => e = .returned (.int .i64 1) ∧ w' = w := by
  by_cases hx : x < 0
  · clear h
    go_enter Try.func10, Try.ntmps10
    go_wp2_with fail
    go_ret
    exact ⟨rfl, rfl⟩
  · by_cases hy : (p.safe.length : Int) ≤ x
    · clear h
      go_enter Try.func10, Try.ntmps10
      go_wp2_with fail
      go_at_call 20
      refine (size_c H).mono ?_
      rintro e w1 ⟨rfl, rfl⟩
      go_wp2_with fail
      go_ret
      exact ⟨rfl, rfl⟩
    · have hn : (64 : Int) < (n : Int) := by omega
      have hy2 : x < (p.safe.length : Int) := by omega
      clear h
      go_enter Try.func10, Try.ntmps10
      go_wp2_with fail
      go_at_call 20
      refine (size_c H).mono ?_
      rintro e w1 ⟨rfl, rfl⟩
      go_wp2_with fail
      go_ret
      exact ⟨rfl, rfl⟩
theorem equal_c {xs ys : List Int} {A B : Option Addr} (a b : Nat) (w : World) (hx : Kd.C (Kd.int .u8) w A xs.length xs) (hy : Kd.C (Kd.int .u8) w B ys.length ys) :
    Calls Try.prog 29 #[.slice A xs.length a, .slice B ys.length b] w fun e w' => e = .returned (.bool ((strOfNums xs).toList == (strOfNums ys).toList)) ∧ w' = w := by
  have h1 := Kd.C_string (P := Try.prog) (c := a) Try.underlying22 Try.underlying5 Try.underlying9 hx
  have h2 := Kd.C_string (P := Try.prog) (c := b) Try.underlying22 Try.underlying5 Try.underlying9 hy
  go_enter Try.func29, Try.ntmps29
  go_wp2_with fail
  go_ret
  exact ⟨rfl, rfl⟩
/-- A law's plate: made within the call, and what is known of the world. -/
structure Pl (w0 w : World) (c : Nat) (sv wv : Value) (p : St) : Prop where
  is : IsPlate w c sv wv p
  below : Below w0.heap.size w0 w
  own : ∀ k, Own c sv wv k → w0.heap.size ≤ k
theorem Pl.step {w0 w w' : World} {c : Nat} {sv wv wv' : Value} {p p' : St} (h : Pl w0 w c sv wv p) (h1 : IsPlate w' c sv wv' p') (f : Fr w w' (Own c sv wv)) (ho : ∀ k, Own c sv wv' k → Own c sv wv k ∨ w.heap.size ≤ k) : Pl w0 w' c sv wv' p' :=
  ⟨h1, h.below.trans (f.below h.below.size (fun i hi => h.own i hi)), fun k hk => (ho k hk).elim (h.own k) (fun h2 => Nat.le_trans h.below.size h2)⟩
theorem Pl.by {w0 w w' : World} {c : Nat} {sv wv : Value} {p : St} (h : Pl w0 w c sv wv p) (hb : Below w.heap.size w w') : Pl w0 w' c sv wv p :=
  ⟨h.is.below hb, h.below.trans (hb.mono h.below.size), h.own⟩
/-- A block that is none of the plate's stays what it is. -/
structure Off (w : World) (c : Nat) (sv wv : Value) (g : Nat) (o : Obj) : Prop where
  at_ : w.heap[g]? = some o
  off : ¬ Own c sv wv g
theorem Off.step {w w' : World} {c : Nat} {sv wv wv' : Value} {g : Nat} {o : Obj} (h : Off w c sv wv g o) (f : Fr w w' (Own c sv wv)) (ho : ∀ k, Own c sv wv' k → Own c sv wv k ∨ w.heap.size ≤ k) : Off w' c sv wv' g o :=
  ⟨f.at h.at_ h.off, fun hk => (ho g hk).elim h.off (fun h2 => by have := blk_lt h.at_; omega)⟩
theorem Off.by {w w' : World} {c : Nat} {sv wv : Value} {g : Nat} {o : Obj} (h : Off w c sv wv g o) (hb : Below w.heap.size w w') : Off w' c sv wv g o := ⟨blk_below h.at_ hb, h.off⟩
theorem Off.new {w w' : World} {c : Nat} {sv wv : Value} {p : St} {g : Nat} {o : Obj} (h : IsPlate w c sv wv p) (hg : w.heap.size ≤ g) (ha : w'.heap[g]? = some o) : Off w' c sv wv g o := ⟨ha, fun hk => by have := h.lt hk; omega⟩
theorem own_nilw {c : Nat} {sv wv : Value} {n : Nat} : ∀ k, Own c sv (.slice none 0 0) k → Own c sv wv k ∨ n ≤ k := fun k hk => hk.elim (fun h => .inl (.inl h)) (fun h => h.elim (fun h => .inl (.inr (.inl h))) (fun h => by simp [Value.ownBlock] at h))
/-- A whole sector's block, read as a row. -/
theorem sec_C {w : World} {g : Nat} {xs : List Int} {t : TypeId} (h : w.heap[g]? = some (.cells (U xs).toArray t (0, 0))) (hl : xs.length = 64) : Kd.C (Kd.int .u8) w (some ⟨g, 0, none⟩) xs.length xs :=
  Kd.C_of_reads (d := (0 : Int)) (enc := Value.int .u8) (h1 := fun _ => rfl) ⟨rfl, by omega, fun _ => ⟨_, rfl, fun j hj => by
    rw [add_plain, blk_cell h]
    simp [hj]⟩⟩
theorem range_C {w : World} {g o : Nat} {xs : List Int} (h : w.rangeAt g o (U xs)) (hl : xs.length = 64) : Kd.C (Kd.int .u8) w (some ⟨g, o, none⟩) xs.length xs :=
  Kd.C_of_reads (d := (0 : Int)) (enc := Value.int .u8) (h1 := fun _ => rfl) ⟨rfl, by omega, fun _ => ⟨_, rfl, fun j hj => by
    rw [Addr.add_mid]
    exact h j _ (by simp [hj])⟩⟩
def sameB (p q : St) : Bool := p.safe.length == q.safe.length && (List.range p.safe.length).all fun i => (strOfNums (p.safe.getD i [])).toList == (strOfNums (q.safe.getD i [])).toList
end Go.Proofs.Ytcobkideokljfaa
