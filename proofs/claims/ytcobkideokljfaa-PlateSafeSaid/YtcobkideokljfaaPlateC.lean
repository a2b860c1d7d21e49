/- A plate: a sector as it is, and Read. -/
import Derived.Test.YtcobkideokljfaaPlateB
import Derived.Test.YtcobkideokljfaaWMore
import Derived.Deep.LoopGhost
import Derived.Deep.WholeRow
import Derived.LoopTactic
namespace Go.Proofs.Ytcobkideokljfaa
open Go.RowKit Go.Proofs.YtcobkideokljfaaW.PrintWords Go.Proofs.YtcobkideokljfaaW.PrintLast Go.Proofs.YtcobkideokljfaaW.PrintMore
set_option linter.unusedVariables false
set_option linter.unusedSimpArgs false

theorem flatS_at : ∀ {L : List (List Int)} {i : Nat} {s : List Int}, (∀ s ∈ L, s.length = 64) → L[i]? = some s → ∀ j u, (U s)[j]? = some u → (flatS L)[i * 64 + j]? = some u
  | [], i, s, _, h, _, _, _ => by simp at h
  | t :: L, 0, s, hl, h, j, u, hu => by
    simp at h; subst h
    have hj := (List.getElem?_eq_some_iff.1 hu).1
    simp only [flatS, List.flatMap_cons, Nat.zero_mul, Nat.zero_add]
    rw [List.getElem?_append_left hj]
    exact hu
  | t :: L, i + 1, s, hl, h, j, u, hu => by
    have ht := hl t (List.mem_cons_self ..)
    have := flatS_at (L := L) (i := i) (fun x hx => hl x (List.mem_cons_of_mem _ hx)) (by simpa using h) j u hu
    simp only [flatS, List.flatMap_cons] at this ⊢
    rw [List.getElem?_append_right (by simp [ht]; omega), show (i + 1) * 64 + j - (U t).length = i * 64 + j by simp [ht]; omega]
    exact this
theorem flatW_at : ∀ {L : List Wr} {i : Nat} {q : Wr}, (∀ q ∈ L, q.2.length = 64) → L[i]? = some q → ∀ j u, (Value.int .i64 q.1 :: U q.2)[j]? = some u → (flatW L)[i * 65 + j]? = some u
  | [], i, q, _, h, _, _, _ => by simp at h
  | t :: L, 0, q, hl, h, j, u, hu => by
    simp at h; subst h
    have hj := (List.getElem?_eq_some_iff.1 hu).1
    simp only [flatW, List.flatMap_cons, Nat.zero_mul, Nat.zero_add]
    rw [List.getElem?_append_left hj]
    exact hu
  | t :: L, i + 1, q, hl, h, j, u, hu => by
    have ht := hl t (List.mem_cons_self ..)
    have := flatW_at (L := L) (i := i) (fun x hx => hl x (List.mem_cons_of_mem _ hx)) (by simpa using h) j u hu
    simp only [flatW, List.flatMap_cons] at this ⊢
    rw [List.getElem?_append_right (by simp [ht]; omega), show (i + 1) * 65 + j - (Value.int .i64 t.1 :: U t.2).length = i * 65 + j by simp [ht]; omega]
    exact this
theorem safe_form {w : World} {c : Nat} {sv wv : Value} {p : St} (H : IsPlate w c sv wv p) {i : Nat} {s : List Int} (hi : p.safe[i]? = some s) : ∃ g cap, sv = .slice (some ⟨g, 0, none⟩) p.safe.length cap ∧ g < w.heap.size ∧ w.rangeAt g (i * 64) (U s) := by
  have h0 : 0 < p.safe.length := by have := (List.getElem?_eq_some_iff.1 hi).1; omega
  obtain ⟨g, cap, e, _, hg, hc⟩ := H.srow.cells h0
  exact ⟨g, cap, e, hg, fun j v hv => hc _ _ (flatS_at H.fit.sl hi j v hv)⟩
theorem wet_form {w : World} {c : Nat} {sv wv : Value} {p : St} (H : IsPlate w c sv wv p) {i : Nat} {q : Wr} (hi : p.wet[i]? = some q) : ∃ g cap, wv = .slice (some ⟨g, 0, none⟩) p.wet.length cap ∧ g < w.heap.size ∧ w.rangeAt g (i * 65) (.int .i64 q.1 :: U q.2) := by
  have h0 : 0 < p.wet.length := by have := (List.getElem?_eq_some_iff.1 hi).1; omega
  obtain ⟨g, cap, e, _, hg, hc⟩ := H.wrow.cells h0
  exact ⟨g, cap, e, hg, fun j v hv => hc _ _ (flatW_at H.fit.wl hi j v hv)⟩
theorem rangeAt_of {w w' : World} {g o : Nat} {cs : List Value} (h : w.rangeAt g o cs) (hg : w'.heap[g]? = w.heap[g]?) : w'.rangeAt g o cs := fun j v hv => by
  have := h j v hv
  simpa [World.cell?, hg] using this
theorem oneU (s : List Int) : (U s).toArray.all (·.oneCell') = true := all_oneCell_toArray (fun v hv => by obtain ⟨x, _, rfl⟩ := List.mem_map.1 hv; rfl)
theorem oneW (a : Int) (s : List Int) : (Value.int .i64 a :: U s).toArray.all (·.oneCell') = true := all_oneCell_toArray (fun v hv => by
  rcases List.mem_cons.1 hv with rfl | hv
  · rfl
  · obtain ⟨x, _, rfl⟩ := List.mem_map.1 hv; rfl)
theorem blk_row {w : World} {g : Nat} {old cs : Array Value} {t : TypeId} (h : w.heap[g]? = some (.cells old t (0, 0))) : (w.setRow g cs).heap[g]? = some (.cells cs t (0, 0)) := setRow_heap w g old cs t (0, 0) h
theorem info55 : (Try.prog.info? 55).map (·.size) = some 64 := by kernel_rfl
theorem info57 : (Try.prog.info? 57).map (·.size) = some 65 := by kernel_rfl
theorem wp_store_new {P : Program} {ops : Array Oper} {rest : List Oper} {o : Oper} {a : Act} {W : World} {Q : Exit → Act → World → Prop} {old : Array Value} (hgd : o.guard = none) (ty : TypeId) (x y : Operand) (ho : o.op = .store ty x y)
    (cells : Array Value) (hx : a.eval x = .pointer (some ⟨W.heap.size, 0, none⟩)) (hy : a.eval y = .agg cells) (hi : (P.info? ty).map (·.size) = some cells.size)
    (hold : old.size = cells.size) (h1 : cells.all (·.oneCell') = true)
    (h : ∀ V : World, V.heap[W.heap.size]? = some (.cells cells ty (0, 0)) → V = W.alloc (.cells cells ty) → wpList P ops Q rest (a.put o.dst undef) V) : wpList P ops Q (o :: rest) a (W.alloc (.cells old ty)) :=
  wpList_store_row hgd ty x y ho W.heap.size cells hx hy ty old (blk_new W _) hi hold h1 (h _ (by rw [World.setRow_alloc_new]; exact blk_new W _) (World.setRow_alloc_new ..))
theorem wp_store_at {P : Program} {ops : Array Oper} {rest : List Oper} {o : Oper} {a : Act} {w : World} {Q : Exit → Act → World → Prop} (hgd : o.guard = none) (ty : TypeId) (x y : Operand) (ho : o.op = .store ty x y) (g : Nat)
    (cells : Array Value) (hx : a.eval x = .pointer (some ⟨g, 0, none⟩)) (hy : a.eval y = .agg cells) (t : TypeId) (old : Array Value) (hg : w.heap[g]? = some (.cells old t (0, 0))) (hi : (P.info? ty).map (·.size) = some cells.size)
    (hold : old.size = cells.size) (h1 : cells.all (·.oneCell') = true)
    (h : ∀ V : World, V.heap[g]? = some (.cells cells t (0, 0)) → V = w.setRow g cells → wpList P ops Q rest (a.put o.dst undef) V) : wpList P ops Q (o :: rest) a w :=
  wpList_store_row hgd ty x y ho g cells hx hy t old hg hi hold h1 (h _ (blk_row hg) rfl)
def Z65 : Array Value := (Value.int .i64 0 :: U (List.replicate 64 0)).toArray
theorem Z65_size : Z65.size = 65 := by simp [Z65]
theorem zero57 (w : World) : Sem.run Try.prog (zeroValue 57) w = .ok (.agg Z65) w := by
  have h : (Try.prog.info? 57).map (·.zero) = some (some (.agg Z65)) := by kernel_rfl
  cases hq : Try.prog.info? 57 with
  | none => simp [hq] at h
  | some i => simp [hq] at h; simp [zeroValue, typeInfo, hq, h, Sem.run_bind]
/-- What is known while a sector is looked up. -/
structure Looked (w V : World) (g4 g6 : Nat) (z : List Int) (s : List Int) : Prop where
  b : Below w.heap.size w V
  z4 : V.heap[g4]? = some (.cells (U z).toArray 55 (0, 0))
  s6 : V.heap[g6]? = some (.cells (U s).toArray 55 (0, 0))
theorem Looked.alloc {w V : World} {g4 g6 : Nat} {z s : List Int} (h : Looked w V g4 g6 z s) (o : Obj) : Looked w (V.alloc o) g4 g6 z s := ⟨below_alloc h.b o, blk_alloc h.z4 o, blk_alloc h.s6 o⟩
def look (i : Nat) (s : List Int) (L : List Wr) : List Int := L.foldl (fun s q => if q.1 = (i : Int) then q.2 else s) s
theorem look_take (i : Nat) (s : List Int) (L : List Wr) (k : Nat) (q : Wr) (hq : L[k]? = some q) : look i s (L.take (k + 1)) = if q.1 = (i : Int) then q.2 else look i s (L.take k) := by
  rw [List.take_add_one, hq]
  simp [look, List.foldl_append]
def St.sector (p : St) (i : Nat) : List Int := look i (p.safe.getD i []) p.wet
theorem look_len {i : Nat} {s : List Int} {L : List Wr} (hs : s.length = 64) (hL : ∀ q ∈ L, q.2.length = 64) : (look i s L).length = 64 := by
  induction L generalizing s with
  | nil => exact hs
  | cons q L ih =>
    have : look i s (q :: L) = look i (if q.1 = (i : Int) then q.2 else s) L := rfl
    rw [this]
    refine ih ?_ (fun x hx => hL x (List.mem_cons_of_mem _ hx))
    split
    · exact hL q (List.mem_cons_self ..)
    · exact hs
set_option maxHeartbeats 4000000 in
set_option maxRecDepth 100000 in
theorem sector_c {w : World} {c : Nat} {sv wv : Value} {p : St} (H : IsPlate w c sv wv p) (i : Nat) (hi : i < p.safe.length) : Calls Try.prog 24 #[.pointer (some ⟨c, 0, none⟩), .int .i64 i] w fun e w' => e = .returned (.tuple #[.agg (U (p.sector i)).toArray, .bool true]) ∧ Below w.heap.size w w' := by
  have HI := Aside0.mk H
  obtain ⟨s, hs⟩ : ∃ s, p.safe[i]? = some s := ⟨_, List.getElem?_eq_getElem hi⟩
  have hs64 : s.length = 64 := H.fit.sl s (List.mem_of_getElem? hs)
  have hsec : p.sector i = look i s p.wet := by simp [St.sector, List.getD_eq_getElem?_getD, hs]
  rw [hsec]
  have hn : p.safe.length ≤ 1000 := H.fit.sn
  have hwn : p.wet.length ≤ 1000 := H.fit.wn
  obtain ⟨gs, caps, rfl, hgs, hrs⟩ := safe_form H hs
  obtain ⟨Aw, capw, rfl⟩ := H.wrow.form
  obtain ⟨h0, h1, h2, h3, h4, h5, hf⟩ := cells6 H.blk
  have i1 : (i : Int) < p.safe.length := by omega
  have i2 : ¬ (i : Int) < 0 := by omega
  have HRS := Aside0.mk hrs
  clear H hsec hrs
  go_enter Try.func24, Try.ntmps24
  go_wp2_with fail
  go_at_call 20
  refine (size_c (HI.out.below (below_alloc (Below.refl _ _) _))).mono ?_
  rintro e W ⟨rfl, hW⟩
  obtain ⟨g4, hg4⟩ : ∃ g4, g4 = w.heap.size := ⟨_, rfl⟩
  have HBW : Aside0 (Below w.heap.size w W) := ⟨by rw [hW]; exact below_alloc (Below.refl _ _) _⟩
  have HZ : Aside0 (W.heap[g4]? = some (.cells (U (List.replicate 64 0)).toArray 55 (0, 0))) := ⟨by rw [hW, hg4]; exact blk_new _ _⟩
  rw [← hg4]
  have HG4 := Aside0.mk hg4
  clear hW hg4 h0 h1 h2 h3 h4 h5 hf
  have HIW := Aside0.mk (HI.out.below HBW.out)
  obtain ⟨h0, h1, h2, h3, h4, h5, hf⟩ := cells6 HIW.out.blk
  have HRW := Aside0.mk (rangeAt_of HRS.out (HBW.out.block gs hgs))
  go_wp2_with (first
    | (refine wpList_load_mid rfl 55 (.tmp 23) rfl gs (i * 64) rfl (U s) _ HRW.out Try.underlying55 rfl (by rw [info55]; simp [hs64]) ?_)
    | (refine wp_store_new rfl 55 (.tmp 6) (.tmp 24) rfl (U s).toArray rfl rfl (by rw [info55]; simp [hs64]) (by simp [hs64]) (oneU s) ?_
       intro V hv6 hV
       have HL : Aside0 (Looked w V g4 W.heap.size (List.replicate 64 0) s) := ⟨by rw [hV]; exact below_alloc HBW.out _, by rw [hV]; exact blk_alloc HZ.out _, hv6⟩
       obtain ⟨g6, hg6⟩ : ∃ g6, g6 = W.heap.size := ⟨_, rfl⟩
       have HG6 : Aside0 (w.heap.size ≤ g6 ∧ g6 ≠ g4) := ⟨by have h1 := HBW.out.size; have h2 := blk_lt HZ.out; omega⟩
       rw [← hg6] at HL ⊢
       clear hV hv6 hg6 h0 h1 h2 h3 h4 h5 hf
       have HIV := Aside0.mk (HI.out.below HL.out.b)
       obtain ⟨h0, h1, h2, h3, h4, h5, hf⟩ := cells6 HIV.out.blk))
  clear HIV h0 h1 h2 h3 h4 h5 hf HRW HIW HZ HBW HRS
  go_loopg [30] p.wet.length (fun kq v30 wr => ∃ k : Nat, v30 = .int .i64 k ∧ k ≤ p.wet.length ∧ Aside0 (kq = p.wet.length - k) ∧ Aside0 (Looked w wr g4 g6 (List.replicate 64 0) (look i s (p.wet.take k))))
  case atStart => exact ⟨0, rfl, by omega, ⟨rfl⟩, HL⟩
  case round =>
    clear HL
    obtain ⟨k, rfl, hk, hkq, HT⟩ := hrel
    have hl64 : (look i s (p.wet.take k)).length = 64 := look_len hs64 (fun q hq => HI.out.fit.wl q (List.mem_of_mem_take hq))
    by_cases hlt : k < p.wet.length
    · obtain ⟨q, hq⟩ : ∃ q, p.wet[k]? = some q := ⟨_, List.getElem?_eq_getElem hlt⟩
      have hq64 : q.2.length = 64 := HI.out.fit.wl q (List.mem_of_getElem? hq)
      obtain ⟨gw, cw, ew, hgw, hrw⟩ := wet_form HI.out hq
      injection ew with ew1 _ ew2
      subst ew1 ew2
      have HRW := Aside0.mk (rangeAt_of hrw (HT.out.b.block gw hgw))
      have hlook := look_take i s p.wet k q hq
      have k1 : (k : Int) < p.wet.length := by omega
      have k2 : ¬ (k : Int) < 0 := by omega
      clear hrw
      obtain ⟨q1, q2⟩ := q
      dsimp only at hq64 hlook HRW
      have hz57 := zero57
      have HLT := Aside0.mk hlt
      by_cases he : q1 = (i : Int)
      · rw [if_pos he] at hlook
        subst he
        go_wp2_with (first
          | (refine wpList_load_mid rfl 57 (.tmp 32) rfl gw (k * 65) rfl (.int .i64 (i : Int) :: U q2) _ HRW.out Try.underlying57 rfl (by rw [info57]; simp [hq64]) ?_)
          | (refine wp_store_new rfl 57 (.tmp 8) (.tmp 33) rfl (Value.int .i64 (i : Int) :: U q2).toArray rfl rfl (by rw [info57]; simp [hq64]) (by rw [Z65_size]; simp [hq64]) (oneW (i : Int) q2) ?_
             intro V hv8 hV
             have HV : Aside0 (Looked w V g4 g6 (List.replicate 64 0) (look i s (p.wet.take k))) := ⟨by rw [hV]; exact HT.out.alloc _⟩
             obtain ⟨g8, hg8⟩ : ∃ g8, g8 = wr.heap.size := ⟨_, rfl⟩
             rw [← hg8] at hv8 ⊢
             have hc8 : V.cell? ⟨g8, 0, none⟩ = some (.int .i64 (i : Int)) := (blk_cell hv8 0).trans rfl
             have hr8 : V.rangeAt g8 1 (U q2) := fun j v hv => (blk_cell hv8 (1 + j)).trans (by rw [Nat.add_comm]; simpa using hv)
             have HR8 := Aside0.mk hr8
             clear hV hv8 hg8 hr8)
          | (refine wpList_load_mid rfl 55 (.tmp 38) rfl g8 1 rfl (U q2) _ HR8.out Try.underlying55 rfl (by rw [info55]; simp [hq64]) ?_)
          | (refine wp_store_at rfl 55 (.tmp 6) (.tmp 39) rfl g6 (U q2).toArray rfl rfl 55 _ HV.out.s6 (by rw [info55]; simp [hq64]) (by simp [hl64, hq64]) (oneU q2) ?_
             intro V2 hv6 hV2
             have HV2 : Aside0 (Looked w V2 g4 g6 (List.replicate 64 0) q2) := ⟨by rw [hV2]; exact below_setRow HV.out.b HG6.out.1 _, by rw [hV2, setRow_other _ _ _ _ HG6.out.2.symm]; exact HV.out.z4, hv6⟩
             clear hV2 hv6))
        go_roundg (p.wet.length - (k + 1))
        case measure => have := hkq.out; have := HLT.out; omega
        case rel => exact ⟨k + 1, by go_num, by have := HLT.out; omega, ⟨rfl⟩, ⟨by rw [hlook]; exact HV2.out⟩⟩
      · rw [if_neg he] at hlook
        have hb : (q1 == (i : Int)) = false := beq_eq_false_iff_ne.mpr he
        go_wp2_with (first
          | (refine wpList_load_mid rfl 57 (.tmp 32) rfl gw (k * 65) rfl (.int .i64 q1 :: U q2) _ HRW.out Try.underlying57 rfl (by rw [info57]; simp [hq64]) ?_)
          | (refine wp_store_new rfl 57 (.tmp 8) (.tmp 33) rfl (Value.int .i64 q1 :: U q2).toArray rfl rfl (by rw [info57]; simp [hq64]) (by rw [Z65_size]; simp [hq64]) (oneW q1 q2) ?_
             intro V hv8 hV
             have HV : Aside0 (Looked w V g4 g6 (List.replicate 64 0) (look i s (p.wet.take k))) := ⟨by rw [hV]; exact HT.out.alloc _⟩
             obtain ⟨g8, hg8⟩ : ∃ g8, g8 = wr.heap.size := ⟨_, rfl⟩
             rw [← hg8] at hv8 ⊢
             have hc8 : V.cell? ⟨g8, 0, none⟩ = some (.int .i64 q1) := (blk_cell hv8 0).trans rfl
             have hr8 : V.rangeAt g8 1 (U q2) := fun j v hv => (blk_cell hv8 (1 + j)).trans (by rw [Nat.add_comm]; simpa using hv)
             have HR8 := Aside0.mk hr8
             clear hV hv8 hg8 hr8))
        go_roundg (p.wet.length - (k + 1))
        case measure => have := hkq.out; have := HLT.out; omega
        case rel => exact ⟨k + 1, by go_num, by have := HLT.out; omega, ⟨rfl⟩, ⟨by rw [hlook]; exact HV.out⟩⟩
    · obtain rfl : k = p.wet.length := by omega
      rw [List.take_length] at HT hl64
      go_wp2_with (first
        | (refine wpList_load_row rfl 55 (.tmp 6) rfl g6 rfl 55 (U (look i s p.wet)).toArray (0, 0) _ HT.out.s6 Try.underlying55 rfl (by rw [info55]; simp [hl64]) ?_)
        | (refine wp_store_at rfl 55 (.tmp 4) (.tmp 41) rfl g4 (U (look i s p.wet)).toArray rfl rfl 55 _ HT.out.z4 (by rw [info55]; simp [hl64]) (by simp [hl64]) (oneU _) ?_
           intro V hv4 hV
           have HV : Aside0 (Below w.heap.size w V) := ⟨by rw [hV]; exact below_setRow HT.out.b (Nat.le_of_eq HG4.out.symm) _⟩
           have HV4 := Aside0.mk hv4
           clear hV hv4))
      refine bodyPost_ret (results_ct rfl _ _ g4 55 (U (look i s p.wet)).toArray (0, 0) _ rfl HV4.out Try.underlying55 rfl (by rw [info55]; simp [hl64])) rfl ?_
      exact ⟨rfl, HV.out⟩
theorem read_nil (i : Int) (w : World) : Calls Try.prog 15 #[.pointer none, .int .i64 i] w fun e w' => e = .returned (.tuple #[.slice none 0 0, .int .i64 7]) ∧ w' = w := by
  go_enter Try.func15, Try.ntmps15
  go_wp2
  go_ret2
  exact ⟨rfl, rfl⟩
theorem read_off {w : World} {c : Nat} {sv wv : Value} {p : St} (H : IsPlate w c sv wv p) (ho : p.off = true) (i : Int) : Calls Try.prog 15 #[.pointer (some ⟨c, 0, none⟩), .int .i64 i] w fun e w' => e = .returned (.tuple #[.slice none 0 0, .int .i64 7]) ∧ w' = w := by
  obtain ⟨h0, h1, h2, h3, h4, h5, hf⟩ := cells6 H.blk
  rw [ho] at h3
  go_enter Try.func15, Try.ntmps15
  go_wp2
  go_ret2
  exact ⟨rfl, rfl⟩
theorem sector_len {w : World} {c : Nat} {sv wv : Value} {p : St} (H : IsPlate w c sv wv p) {i : Nat} (hi : i < p.safe.length) : (p.sector i).length = 64 := by
  have hs : p.safe[i]? = some (p.safe[i]) := List.getElem?_eq_getElem hi
  unfold St.sector
  refine look_len ?_ H.fit.wl
  rw [List.getD_eq_getElem?_getD, hs]
  exact H.fit.sl _ (List.getElem_mem hi)
set_option maxHeartbeats 4000000 in
theorem read_c {w : World} {c : Nat} {sv wv : Value} {p : St} (H : IsPlate w c sv wv p) (ho : p.off = false) (i : Nat) (hi : i < p.safe.length) : Calls Try.prog 15 #[.pointer (some ⟨c, 0, none⟩), .int .i64 i] w fun e w' => ∃ g, e = .returned (.tuple #[.slice (some ⟨g, 0, none⟩) 64 64, .int .i64 0]) ∧ w.heap.size ≤ g ∧ w'.heap[g]? = some (.cells (U (p.sector i)).toArray 55 (0, 0)) ∧ Below w.heap.size w w' := by
  obtain ⟨h0, h1, h2, h3, h4, h5, hf⟩ := cells6 H.blk
  rw [ho] at h3
  have hl64 := sector_len H hi
  go_enter Try.func15, Try.ntmps15
  go_wp2_with fail
  go_at_call 24
  refine (sector_c H i hi).mono ?_
  rintro e W ⟨rfl, hb⟩
  have HB := Aside0.mk hb
  obtain ⟨s, hs⟩ : ∃ s, s = p.sector i := ⟨_, rfl⟩
  rw [← hs] at hl64 ⊢
  have HS := Aside0.mk hs
  clear h0 h1 h2 h3 h4 h5 hf H hs hb
  go_wp2_with (refine wp_store_new rfl 55 (.tmp 6) (.tmp 20) rfl (U s).toArray rfl rfl (by rw [info55]; simp [hl64]) (by simp [hl64]) (oneU s) ?_
               intro V hv6 hV
               have HV6 := Aside0.mk hv6
               have HBV : Aside0 (Below w.heap.size w V) := ⟨by rw [hV]; exact below_alloc HB.out _⟩
               obtain ⟨g6, hg6⟩ : ∃ g6, g6 = W.heap.size := ⟨_, rfl⟩
               rw [← hg6] at HV6 ⊢
               have HG6 : Aside0 (w.heap.size ≤ g6) := ⟨by rw [hg6]; exact HB.out.size⟩
               clear hV hv6 hg6)
  go_ret2
  exact ⟨g6, rfl, HG6.out, by rw [← HS.out]; exact HV6.out, HBV.out⟩
end Go.Proofs.Ytcobkideokljfaa
