/- A list of bytes of which one is another one has another sum. Each byte lies from 0 to 255. -/
import Derived.Test.YtifefhdinnechaaDoorPureSealOps
namespace Go.Proofs.YtifefhdinnechaaDoor.Pure
open Go.RowKit Go.Proofs.YtifefhdinnechaaDoor.PA Go.Proofs.YtifefhdinnechaaDoorW.PrintWords Go.Proofs.YtifefhdinnechaaDoorW.PrintLast Go.Proofs.YtifefhdinnechaaDoorW.PrintMore

theorem tab_high : ∀ i, i < 16 → ∀ j, j < 16 → tab i / 268435456 = tab j / 268435456 → i = j := by decide +kernel
theorem xor_cancel {a b c : Nat} (h : a ^^^ b = a ^^^ c) : b = c := by
  have : a ^^^ (a ^^^ b) = a ^^^ (a ^^^ c) := by rw [h]
  rwa [← Nat.xor_assoc, ← Nat.xor_assoc, Nat.xor_self, Nat.zero_xor, Nat.zero_xor] at this
theorem high_of (a c : Nat) (ha : a < 268435456) : (a ^^^ c) / 268435456 = c / 268435456 := by
  have h := Nat.xor_div_two_pow (a := a) (b := c) (n := 28)
  simp only [Nat.reducePow] at h
  rw [h, Nat.div_eq_of_lt ha, Nat.zero_xor]
theorem nib_inj {r r' v v' : Nat} (hr : r < 4294967296) (hr' : r' < 4294967296) (h : nib r v = nib r' v') : r / 16 = r' / 16 ∧ (r % 16) ^^^ (v % 16) = (r' % 16) ^^^ (v' % 16) := by
  unfold nib at h
  have h1 : (r / 16 ^^^ tab ((r ^^^ v) % 16)) / 268435456 = (r' / 16 ^^^ tab ((r' ^^^ v') % 16)) / 268435456 := by rw [h]
  rw [high_of _ _ (by omega), high_of _ _ (by omega)] at h1
  have h2 := tab_high _ (Nat.mod_lt _ (by decide)) _ (Nat.mod_lt _ (by decide)) h1
  rw [h2, Nat.xor_comm, Nat.xor_comm (r' / 16)] at h
  have h3 := xor_cancel h
  rw [xor16, xor16 r' v'] at h2
  exact ⟨h3, h2⟩
theorem nib_state {r r' v : Nat} (hr : r < 4294967296) (hr' : r' < 4294967296) (h : nib r v = nib r' v) : r = r' := by
  obtain ⟨h1, h2⟩ := nib_inj hr hr' h
  rw [Nat.xor_comm, Nat.xor_comm (r' % 16)] at h2
  have := xor_cancel h2
  omega
theorem byteT_state {r r' b : Nat} (hr : r < 4294967296) (hr' : r' < 4294967296) (h : byteT r b = byteT r' b) : r = r' :=
  nib_state hr hr' (nib_state (nib_lt _ _ hr) (nib_lt _ _ hr') h)
theorem byteT_byte {r b b' : Nat} (hr : r < 4294967296) (hb : b < 256) (hb' : b' < 256) (h : byteT r b = byteT r b') : b = b' := by
  obtain ⟨h1, h2⟩ := nib_inj (nib_lt r b hr) (nib_lt r b' hr) h
  have h3 : b % 16 = b' % 16 := by
    have h4 : nib r b / 268435456 = nib r b' / 268435456 := by
      have := nib_lt r b hr
      have := nib_lt r b' hr
      omega
    unfold nib at h4
    rw [high_of _ _ (by omega), high_of _ _ (by omega)] at h4
    have h5 := tab_high _ (Nat.mod_lt _ (by decide)) _ (Nat.mod_lt _ (by decide)) h4
    rw [xor16, xor16 r b'] at h5
    exact xor_cancel h5
  have h6 : nib r b = nib r b' := by rw [← nib_mod r b, ← nib_mod r b', h3]
  rw [h6] at h2
  have := xor_cancel h2
  omega
theorem crc_state (l : List Int) : ∀ r r', r < 4294967296 → r' < 4294967296 → crc r l = crc r' l → r = r' := by
  induction l with
  | nil => exact fun r r' _ _ h => h
  | cons x l ih => exact fun r r' h1 h2 h => byteT_state h1 h2 (ih _ _ (byteT_lt _ _ h1) (byteT_lt _ _ h2) h)
theorem crc_append (r : Nat) (a b : List Int) : crc r (a ++ b) = crc (crc r a) b := by simp [crc, List.foldl_append]
/-- ONE BYTE TURNED IS SEEN. -/
theorem sum_set {l : List Int} (hl : Bytes l) {i : Nat} (hi : i < l.length) {v : Int} (hv0 : 0 ≤ v) (hv : v < 256) (hne : v ≠ l[i]) : sumI (l.set i v) ≠ sumI l := by
  intro h
  have h1 : crc 4294967295 (l.set i v) = crc 4294967295 l := by unfold sumI at h; omega
  have e1 : l.set i v = l.take i ++ v :: l.drop (i + 1) := List.set_eq_take_append_cons_drop |> (fun h => by rw [h, if_pos hi])
  have e2 : l = l.take i ++ l[i] :: l.drop (i + 1) := by rw [← List.drop_eq_getElem_cons hi, List.take_append_drop]
  rw [e1, crc_append] at h1
  have h2 : crc 4294967295 l = crc (crc 4294967295 (l.take i)) (l[i] :: l.drop (i + 1)) := by
    rw [← crc_append, ← e2]
  rw [h2] at h1
  have hs := crc_lt (l.take i) 4294967295 (by decide)
  have h3 := crc_state _ _ _ (byteT_lt _ _ hs) (byteT_lt _ _ hs) h1
  have hb := hl l[i] (List.getElem_mem hi)
  have h4 := byteT_byte hs (by omega) (by omega) h3
  omega
theorem read_set {l : List Int} (hl : Bytes l) (h4 : 4 ≤ l.length) {j : Nat} (hj : j < 4) {v : Int} (_hv0 : 0 ≤ v) (_hv : v < 256) (hne : v ≠ l[j]) : readI (l.set j v) ≠ readI l := by
  obtain ⟨a, b, c, d, r, rfl⟩ := four h4
  have ha := hl a (by simp)
  have hb := hl b (by simp)
  have hc := hl c (by simp)
  have hd := hl d (by simp)
  have : j = 0 ∨ j = 1 ∨ j = 2 ∨ j = 3 := by omega
  rcases this with rfl | rfl | rfl | rfl
  all_goals
    simp only [List.set_cons_zero, List.set_cons_succ, readI, List.getD_cons_zero, List.getD_cons_succ]
    simp only [List.getElem_cons_zero, List.getElem_cons_succ] at hne
    omega
theorem read_far (l : List Int) {j : Nat} (hj : 4 ≤ j) (v : Int) : readI (l.set j v) = readI l := by
  have h : ∀ q, q < 4 → (l.set j v).getD q 0 = l.getD q 0 := by
    intro q hq
    rw [List.getD_eq_getElem?_getD, List.getD_eq_getElem?_getD, List.getElem?_set_ne (by omega)]
  unfold readI
  rw [h 0 (by omega), h 1 (by omega), h 2 (by omega), h 3 (by omega)]
theorem read_take (l : List Int) {m : Nat} (hm : 4 ≤ m) : readI (l.take m) = readI l := by
  have h : ∀ q, q < 4 → (l.take m).getD q 0 = l.getD q 0 := by
    intro q hq
    rw [List.getD_eq_getElem?_getD, List.getD_eq_getElem?_getD, List.getElem?_take_of_lt (by omega)]
  unfold readI
  rw [h 0 (by omega), h 1 (by omega), h 2 (by omega), h 3 (by omega)]

/-! ### a closed seal's parts -/
section
variable {a b : Int} {p : List Int}
theorem close_read (hp : p.length < 4294967296) : readI (closeI a b p) = p.length := by
  unfold closeI headI
  simp only [List.append_assoc]
  exact readI_word _ (by omega) (by omega) _
theorem close_take : (closeI a b p).take 12 = headI a b p.length := by
  unfold closeI
  rw [List.append_assoc, List.take_append_of_le_length (by rw [headI_length]; omega)]
  exact List.take_of_length_le (by rw [headI_length]; omega)
theorem close_drop12 : (closeI a b p).drop 12 = wordI (sumI (headI a b p.length ++ p)) ++ p := by
  unfold closeI
  rw [List.append_assoc]
  exact List.drop_left' (headI_length _ _ _)
theorem close_drop16 : (closeI a b p).drop 16 = p := by
  unfold closeI
  exact List.drop_left' (by rw [List.length_append, headI_length]; rfl)
theorem close_read12 : readI ((closeI a b p).drop 12) = sumI (headI a b p.length ++ p) := by
  rw [close_drop12]
  have := sumI_range (headI a b p.length ++ p)
  exact readI_word _ this.1 this.2 _
theorem close_body (hp : p.length < 4294967296) : bodyI (closeI a b p) = p := by
  unfold bodyI
  rw [close_read hp, List.take_of_length_le (by rw [closeI_length]; omega), close_drop16]
theorem close_read4 (ha0 : 0 ≤ a) (ha : a < 4294967296) : readI ((closeI a b p).drop 4) = a := by
  have e : (closeI a b p).drop 4 = wordI a ++ (wordI b ++ (wordI (sumI (headI a b p.length ++ p)) ++ p)) := by
    unfold closeI headI
    simp only [List.append_assoc]
    exact List.drop_left' rfl
  rw [e]
  exact readI_word _ ha0 ha _
theorem close_read8 (hb0 : 0 ≤ b) (hb : b < 4294967296) : readI ((closeI a b p).drop 8) = b := by
  have e : (closeI a b p).drop 8 = wordI b ++ (wordI (sumI (headI a b p.length ++ p)) ++ p) := by
    unfold closeI headI
    rw [List.append_assoc, List.append_assoc]
    exact List.drop_left' rfl
  rw [e]
  exact readI_word _ hb0 hb _
end
/-- What is opened of a right seal with others behind. -/
theorem open_close {a b : Int} {p : List Int} (more : List Int) (hp : p.length ≤ 1048576) (ha0 : 0 ≤ a) (ha : a < 4294967296) (hb0 : 0 ≤ b) (hb : b < 4294967296) : openI a b (closeI a b p ++ more) = (p, 16 + (p.length : Int), 0) := by
  have hl := closeI_length a b p
  have h4 : readI (closeI a b p ++ more) = p.length := by
    rw [← read_take (closeI a b p ++ more) (m := 16 + p.length) (by omega), List.take_left' hl, close_read (by omega)]
  have hbody : bodyI (closeI a b p ++ more) = p := by
    unfold bodyI
    rw [h4, List.take_append_of_le_length (by omega), List.take_of_length_le (by omega), close_drop16]
  have hd : ∀ m, m ≤ 12 → readI ((closeI a b p ++ more).drop m) = readI ((closeI a b p).drop m) := by
    intro m hm
    rw [List.drop_append_of_le_length (by omega), ← read_take ((closeI a b p).drop m ++ more) (m := ((closeI a b p).drop m).length) (by rw [List.length_drop]; omega), List.take_left' rfl]
  unfold openI
  rw [if_neg (by rw [List.length_append]; omega), h4, if_neg (by omega), if_neg (by rw [List.length_append]; omega), hbody, hd 12 (by omega), hd 4 (by omega), hd 8 (by omega), List.take_append_of_le_length (by omega), close_take, close_read12, if_pos rfl, close_read4 ha0 ha, if_pos rfl, close_read8 hb0 hb, if_pos rfl]
/-- A seal of which one byte is another one. -/
theorem open_turned {a b : Int} {p : List Int} (hp : Bytes p) (hn : p.length ≤ 1048576) {k : Nat} (hk : k < 16 + p.length) {v : Int} (hv0 : 0 ≤ v) (hv : v < 256) (hne : v ≠ (closeI a b p)[k]'(by rw [closeI_length]; omega)) (c d : Int) :
    (openI c d ((closeI a b p).set k v)).2.2 ≠ 0 ∨ k < 4 ∧ (openI c d ((closeI a b p).set k v)).2.1 < 16 + p.length := by
  have hl := closeI_length a b p
  have hB := closeI_bytes (a := a) (b := b) hp
  have hlt : k < (closeI a b p).length := by omega
  by_cases h4 : k < 4
  · have h := read_set hB (by omega) h4 hv0 hv hne
    rw [close_read (by omega)] at h
    unfold openI
    rw [List.length_set, hl, if_neg (by omega)]
    by_cases h2 : readI ((closeI a b p).set k v) > 1048576
    · rw [if_pos h2]; left; decide
    · rw [if_neg h2]
      by_cases h3 : ((16 + p.length : Nat) : Int) < 16 + readI ((closeI a b p).set k v)
      · rw [if_pos h3]; left; decide
      · rw [if_neg h3]
        split
        · split
          · split
            · right; exact ⟨h4, by show 16 + readI _ < 16 + (p.length : Int); omega⟩
            · left; simp
          · left; simp
        · left; simp
  · left
    have hr : readI ((closeI a b p).set k v) = p.length := by rw [read_far _ (by omega), close_read (by omega)]
    have hbody : bodyI ((closeI a b p).set k v) = if k < 16 then p else p.set (k - 16) v := by
      unfold bodyI
      rw [hr, List.take_of_length_le (by rw [List.length_set, hl]; omega), List.drop_set, close_drop16]
    have h12 : ((closeI a b p).set k v).take 12 = (headI a b p.length).set k v := by rw [List.take_set, close_take]
    have hwrong : ¬ readI (((closeI a b p).set k v).drop 12) = sumI (((closeI a b p).set k v).take 12 ++ bodyI ((closeI a b p).set k v)) := by
      rw [hbody, h12, List.drop_set]
      have hxB : Bytes (headI a b p.length ++ p) := (headI_bytes _ _ _).append hp
      by_cases h16 : k < 16
      · rw [if_pos h16]
        by_cases hk12 : k < 12
        · rw [if_pos hk12, close_read12]
          have e : (headI a b p.length).set k v ++ p = (headI a b p.length ++ p).set k v := by rw [List.set_append_left _ _ (by rw [headI_length]; omega)]
          rw [e]
          refine fun h => sum_set hxB (i := k) (by rw [List.length_append, headI_length]; omega) hv0 hv ?_ h.symm
          intro he
          refine hne (he.trans ?_)
          rw [List.getElem_append_left (by rw [headI_length]; omega)]
          unfold closeI
          rw [List.getElem_append_left (by rw [List.length_append, headI_length]; omega), List.getElem_append_left (by rw [headI_length]; omega)]
        · rw [if_neg hk12, List.set_eq_of_length_le (l := headI a b p.length) (by rw [headI_length]; omega), ← close_read12 (a := a) (b := b)]
          refine read_set (hB.drop 12) (by rw [List.length_drop]; omega) (by omega) hv0 hv ?_
          intro he
          refine hne (he.trans ?_)
          rw [List.getElem_drop]
          congr 1
          omega
      · rw [if_neg h16, if_neg (by omega), read_far _ (by omega), close_read12, List.set_eq_of_length_le (l := headI a b p.length) (by rw [headI_length]; omega)]
        have e : headI a b p.length ++ p.set (k - 16) v = (headI a b p.length ++ p).set (k - 4) v := by
          rw [List.set_append_right _ _ (by rw [headI_length]; omega), headI_length, show k - 4 - 12 = k - 16 by omega]
        rw [e]
        refine fun h => sum_set hxB (i := k - 4) (by rw [List.length_append, headI_length]; omega) hv0 hv ?_ h.symm
        intro he
        refine hne (he.trans ?_)
        rw [List.getElem_append_right (by rw [headI_length]; omega)]
        have e2 : (closeI a b p)[k]'hlt = p[k - 16]'(by omega) := by
          have h5 := close_drop16 (a := a) (b := b) (p := p)
          have h6 : ((closeI a b p).drop 16)[k - 16]? = p[k - 16]? := by rw [h5]
          rw [List.getElem?_drop, show 16 + (k - 16) = k by omega, List.getElem?_eq_getElem hlt, List.getElem?_eq_getElem (by omega)] at h6
          exact Option.some.inj h6
        rw [e2]
        congr 1
    unfold openI
    rw [List.length_set, hl, if_neg (by omega), hr, if_neg (by omega), if_neg (by omega), if_neg hwrong]
    decide
/-- A seal that is cut. -/
theorem open_cut {a b : Int} {p : List Int} (hn : p.length ≤ 1048576) {m : Nat} (hm : m < 16 + p.length) (c d : Int) : openI c d ((closeI a b p).take m) = ([], 0, 5) := by
  have hl := closeI_length a b p
  unfold openI
  rw [List.length_take, hl]
  by_cases h : m < 16
  · rw [if_pos (by omega)]
  · rw [if_neg (by omega), read_take _ (by omega), close_read (by omega), if_neg (by omega), if_pos (by omega)]
end Go.Proofs.YtifefhdinnechaaDoor.Pure
