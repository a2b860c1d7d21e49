/- StoreBack: what was put back once is never laid aside again. -/
import Derived.Test.YtjfckbdeadnfhaaStoreF
namespace Go.Proofs.Ytjfckbdeadnfhaa
open Go.RowKit Go.Maps Go.Proofs.YtjfckbdeadnfhaaW.PrintWords
set_option linter.unusedVariables false

/-- A row of truths that came in. -/
structure RowB (w : World) (a : Option Addr) (len : Nat) (zs : List Bool) : Prop where
  long : zs.length = len
  cell : ∀ i, i < len → ∃ x, a = some x ∧ w.cell? (x.add i) = some (.bool (zs.getD i false))
theorem RowB.at {w : World} {a : Option Addr} {len : Nat} {zs : List Bool} (h : RowB w a len zs) {w' : World} (hb : Below w.heap.size w w') (i : Nat) (hi : i < len) : ∃ x, a = some x ∧ w'.cell? (x.add i) = some (.bool (zs.getD i false)) := by
  obtain ⟨x, h1, h2⟩ := h.cell i hi
  refine ⟨x, h1, ?_⟩
  rw [hb.cell (World.block_lt_of_cell? w _ h2)]
  exact h2

abbrev n0 : Int → Int → Option Int := fun _ _ => none
abbrev a0 : Int → Int → Bool := fun _ _ => false
theorem back_state (s y v : Int) : (∃ u, hF (hF n0 3 s y v) 4 s y v s y = some u) ∧ hA (hF n0 3 s y v) (hA n0 a0 3 s y v) 4 s y v s y = false ∧ hM (hF n0 3 s y v) (hA n0 a0 3 s y v) (hM n0 a0 0 3 s y v) 4 s y v = 0 := by
  by_cases hv : v = 1
  · subst hv
    refine ⟨⟨1, ?_⟩, ?_, ?_⟩ <;> simp [hF, hA, hM, upd, updA]
  · refine ⟨⟨3, ?_⟩, ?_, ?_⟩ <;> simp [hF, hA, hM, upd, updA, hv]
theorem again_state {f : Int → Int → Option Int} {A : Int → Int → Bool} {s y u k : Int} (hf : f s y = some u) (hA' : A s y = false) (hk : k = 3 ∨ k = 4) : hF f k s y 1 = f ∧ hA f A k s y 1 s y = false ∧ hM f A 0 k s y 1 = 0 := by
  rcases hk with rfl | rfl
  · simp [hF, hA, hM, hf, hA']
  · simp [hF, hA, hM, hf, updA]
set_option maxHeartbeats 8000000 in
theorem back_any (s y v : Int) (Ad : Option Addr) (len cap : Nat) (zs : List Bool) (w : World) (hs : (Lit.int .i64 s).wf = true) (hy : (Lit.int .i64 y).wf = true) (hr : RowB w Ad len zs) :
    Calls Try.prog 6 #[.int .i64 s, .int .i64 y, .slice Ad len cap, .int .u8 v] w fun e w' => e = .returned (.bool true) ∧ Below w.heap.size w w' := by
  have HR := Aside0.mk hr
  have HS := Aside0.mk hs
  have HY := Aside0.mk hy
  clear hr hs hy
  by_cases hg : 30 < len
  · go_enter Try.func6, Try.ntmps6
    go_wp2_with fail
    go_at_call 7
    refine (awake_any _).mono ?_
    rintro e w1 ⟨rfl, hB1⟩
    have HB1 := Aside0.mk hB1
    clear hB1
    go_wp2_with fail
    go_at_call 7
    refine (awake_any _).mono ?_
    rintro e w2 ⟨rfl, hB2⟩
    have HB2 := Aside0.mk hB2
    clear hB2
    go_wp2
    go_ret
    exact ⟨rfl, HB1.out.trans (HB2.out.mono HB1.out.size)⟩
  go_enter Try.func6, Try.ntmps6
  go_wp2_with fail
  go_at_call 7
  refine (awake_any _).mono ?_
  rintro e w1 ⟨rfl, hB1⟩
  go_wp2_with fail
  go_at_call 8
  refine (new_store (base := w1.heap.size) w1 (Nat.le_refl _)).mono ?_
  rintro e w2 ⟨c, S, rfl, HC, hB, hS⟩
  have B1 := Aside0.mk (hB1.trans (hB.mono hB1.size))
  have hS' : Aside0 (∀ i, S i → w.heap.size ≤ i) := ⟨fun i h => Nat.le_trans hB1.size (hS i h)⟩
  obtain ⟨base, hbase⟩ : ∃ b, b = w1.heap.size := ⟨_, rfl⟩
  rw [← hbase] at HC
  clear hbase hB hS hB1
  clear w1
  go_wp2_with fail
  go_at_call 9
  refine (hear_store 3 s y 0 0 v w2 (.inl rfl) HS.out HY.out HC (by omega)).mono ?_
  rintro e w3 ⟨rfl, C3, F3⟩
  have B3 := Aside0.mk (B1.out.trans (F3.below B1.out.size hS'.out))
  clear HC B1 F3
  clear w2
  go_wp2_with fail
  go_at_call 9
  refine (hear_store 4 s y 0 0 v w3 (.inr rfl) HS.out HY.out C3 (by omega)).mono ?_
  rintro e w4 ⟨rfl, C4, F4⟩
  have B4 := Aside0.mk (B3.out.trans (F4.below B3.out.size hS'.out))
  clear C3 B3 F4
  clear w3
  obtain ⟨⟨u, hf⟩, hA4, hM4⟩ := back_state s y v
  rw [hM4] at C4
  obtain ⟨f, hf'⟩ : ∃ f, f = hF (hF n0 3 s y v) 4 s y v := ⟨_, rfl⟩
  obtain ⟨A, hA'⟩ : ∃ A, A = hA (hF n0 3 s y v) (hA n0 a0 3 s y v) 4 s y v := ⟨_, rfl⟩
  rw [← hf'] at hf C4
  rw [← hA'] at hA4 C4
  have HF := Aside0.mk hf
  have HA4 := Aside0.mk hA4
  have HC := Aside0.mk C4
  clear hf' hA' hf hA4 hM4 C4
  go_wp2_with fail
  go_loopg [10] len (fun kq v8 wr => ∃ (i : Nat) (A : Int → Int → Bool), v8 = .int .i64 i ∧ i ≤ len ∧ Aside0 (kq = len - i) ∧ Aside0 (A s y = false) ∧ Aside0 (IsStore wr base c f A 0 (0 + 1 + 1 + i) S) ∧ Aside0 (Below w.heap.size w wr))
  case atStart => exact ⟨0, A, rfl, Nat.zero_le _, ⟨rfl⟩, HA4, HC, B4⟩
  case round =>
    clear HA4 HC B4
    clear A
    obtain ⟨i, A, rfl, hi2, hk, HA, HC, HB⟩ := hrel
    by_cases hlt : i < len
    · obtain ⟨x, e1, hx⟩ := HR.out.at HB.out i hlt
      cases e1
      obtain ⟨bi, hbi⟩ : ∃ b, b = zs.getD i false := ⟨_, rfl⟩
      rw [← hbi] at hx
      clear hbi
      have LN : Aside0 (0 + 1 + 1 + i < 900) := ⟨by omega⟩
      cases bi
      all_goals
        go_wp2_with fail
        go_at_call 9
        first
          | ((with_reducible refine (hear_store 3 s y 0 0 1 wr (.inl rfl) HS.out HY.out HC.out LN.out).mono ?_); obtain ⟨st1, st2, st3⟩ := again_state (k := 3) HF.out HA.out (.inl rfl))
          | ((with_reducible refine (hear_store 4 s y 0 0 1 wr (.inr rfl) HS.out HY.out HC.out LN.out).mono ?_); obtain ⟨st1, st2, st3⟩ := again_state (k := 4) HF.out HA.out (.inr rfl))
        rw [st1, st3]
        rintro e w5 ⟨rfl, C5, F5⟩
        have B5 := Aside0.mk (HB.out.trans (F5.below HB.out.size hS'.out))
        have D5 := Aside0.mk C5
        have ST2 := Aside0.mk st2
        clear hx C5 F5 st1 st2 st3
        go_wp2_with fail
        go_at_call 10
        refine (aside_store s y w5 HS.out HY.out D5.out).mono ?_
        rw [ST2.out]
        rintro e w6 ⟨rfl, rfl⟩
        go_wp2_with fail
        go_at_call 11
        refine (count_store _ D5.out).mono ?_
        rintro e w7 ⟨rfl, rfl⟩
        go_wp2_with fail
        go_roundg (len - (i + 1))
        case measure => have := hk.out; omega
        case rel => exact ⟨i + 1, _, by go_num, by omega, ⟨rfl⟩, ST2, D5, B5⟩
    · obtain rfl : i = len := by omega
      go_wp2_with fail
      go_ret
      exact ⟨by rfl, HB.out⟩
end Go.Proofs.Ytjfckbdeadnfhaa
