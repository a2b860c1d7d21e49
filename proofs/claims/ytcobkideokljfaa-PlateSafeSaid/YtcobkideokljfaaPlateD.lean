/- A plate: New, dry, Flush, Fall. -/
import Derived.Test.YtcobkideokljfaaPlateC
namespace Go.Proofs.Ytcobkideokljfaa
open Go.RowKit Go.Proofs.YtcobkideokljfaaW.PrintWords
set_option linter.unusedVariables false
set_option linter.unusedSimpArgs false

theorem getZ (z : Array Value) (u : Value) (hz : ∀ i, i < z.size → z[i]! = u) (h0 : 0 < z.size) (n : Nat) : (madeCells z n).toList = List.replicate n u := by
  unfold madeCells
  rw [Array.toList_map]
  refine List.eq_replicate_iff.2 ⟨by simp, fun b hb => ?_⟩
  obtain ⟨i, _, rfl⟩ := List.mem_map.1 hb
  exact hz _ (Nat.mod_lt _ h0)
theorem flatS_zero : ∀ n : Nat, flatS (List.replicate n (List.replicate 64 0)) = List.replicate (n * 64) (Value.int .u8 0)
  | 0 => rfl
  | n + 1 => by
    have h := flatS_zero n
    simp only [flatS] at h ⊢
    rw [List.replicate_succ, List.flatMap_cons, h, Nat.add_mul, Nat.one_mul, Nat.add_comm, ← List.replicate_append_replicate]
    exact congrArg (· ++ _) (List.map_replicate ..)
theorem zget {n : Nat} (v : Value) (j : Nat) (hj : j < n) : (List.replicate n v).toArray[j]! = v := by simp [hj]
def Z64 : Value := .agg (U (List.replicate 64 0)).toArray
theorem infoS : (Try.prog.info? 55).map (fun i => (i.zero, i.size, i.bytes)) = some (some Z64, 64, 64) := by kernel_rfl
def St.new (n : Nat) : St := ⟨List.replicate n (List.replicate 64 0), [], -1, false, 0, 0⟩
theorem fit_new {n : Nat} (hn : n ≤ 1000) : Fit (St.new n) := ⟨fun s hs => by rw [(List.mem_replicate.1 hs).2]; simp, fun q hq => by simp [St.new] at hq, fun q hq => by simp [St.new] at hq, by simpa [St.new] using hn, by simp [St.new]⟩
theorem rowP_none (w : World) (base : Nat) (e : TypeId) (size : Nat) : RowP w base e size (.slice none 0 0) 0 [] := ⟨by simp, .inl ⟨rfl, rfl⟩⟩
set_option maxHeartbeats 4000000 in
theorem new_c (x : Int) (n : Nat) (hx : (n : Int) = mx x 0) (hn : n ≤ 1000) (w : World) : Calls Try.prog 9 #[.int .i64 x] w fun e w' => ∃ c, e = .returned (.pointer (some ⟨c, 0, none⟩)) ∧ Below w.heap.size w w' ∧ ∃ sv wv, IsPlate w' c sv wv (St.new n) ∧ (∀ k, Own c sv wv k → w.heap.size ≤ k) := by
  obtain ⟨i, hi, hz, hs, hb⟩ := info_parts infoS
  have HX := Aside0.mk hx
  have key : ∀ (y : Int), y = (n : Int) → ∀ w' : World, w'.ownsRow w.heap.size 55 64 (.slice (some ⟨w.heap.size, 0, none⟩) n n) n (madeCells Z64.cells (n * 64)).toList → w.grownBy w' none →
      IsPlate (w'.alloc (.cells #[.slice (some ⟨w.heap.size, 0, none⟩) n n, .slice none 0 0, .int .i64 (-1), .bool false, .int .i64 0, .int .i64 0] 54)) w'.heap.size (.slice (some ⟨w.heap.size, 0, none⟩) n n) (.slice none 0 0) (St.new n) ∧ Below w.heap.size w (w'.alloc (.cells #[.slice (some ⟨w.heap.size, 0, none⟩) n n, .slice none 0 0, .int .i64 (-1), .bool false, .int .i64 0, .int .i64 0] 54)) ∧ (∀ k, Own w'.heap.size (.slice (some ⟨w.heap.size, 0, none⟩) n n) (.slice none 0 0) k → w.heap.size ≤ k) := by
    intro y _ w' ho hg
    have hB : Below w.heap.size w w' := ⟨hg.os, hg.tape, hg.output, hg.size, fun k hk => hg.block k hk (by simp)⟩
    have hrow : RowP w' 0 55 64 (.slice (some ⟨w.heap.size, 0, none⟩) n n) n (flatS (List.replicate n (List.replicate 64 0))) := by
      have h1 := (RowP.of_own ho).mono (Nat.zero_le _)
      rw [getZ Z64.cells (.int .u8 0) (fun j hj => by
        have : Z64.cells = (List.replicate 64 (Value.int .u8 0)).toArray := rfl
        rw [this] at hj ⊢
        exact zget _ _ (by simpa using hj)) (by simp [Z64, Value.cells]), ← flatS_zero] at h1
      exact h1
    refine ⟨⟨blk_new w' _, ?_, rowP_none _ _ _ _, fit_new hn⟩, below_alloc hB _, ?_⟩
    · have e : (St.new n).safe.length = n := by simp [St.new]
      rw [e]
      exact hrow.of (fun g hg2 => Below.heap_alloc w' _ g (hrow.lt g hg2).1)
    · rintro k (rfl | hk | hk)
      · exact hB.size
      · simp [Value.ownBlock] at hk; omega
      · simp [Value.ownBlock] at hk
  by_cases h0 : x < 0
  · have en : n = 0 := by unfold mx at hx; rw [if_pos h0] at hx; omega
    subst en
    clear hx
    go_enter Try.func9, Try.ntmps9
    go_wp2_with (refine wpList_make_full _ rfl (.tmp 4) (.tmp 4) 51 rfl w.heap.size 55 i Z64 64 Try.underlying51 hi hz hs .i64 .i64 0 0 0 rfl rfl rfl rfl (by rw [hb]; omega) (by unfold maxLen; omega) (Nat.le_refl _) ?_
                 intro w' ho hg
                 have HO := Aside0.mk ho
                 have HG := Aside0.mk hg
                 clear ho hg)
    go_ret
    obtain ⟨k1, k2, k3⟩ := key 0 rfl _ HO.out HG.out
    exact ⟨_, rfl, k2, _, _, k1, k3⟩
  · have en : x = (n : Int) := by unfold mx at hx; rw [if_neg h0] at hx; omega
    subst en
    clear hx
    go_enter Try.func9, Try.ntmps9
    go_wp2_with (refine wpList_make_full _ rfl (.tmp 4) (.tmp 4) 51 rfl w.heap.size 55 i Z64 64 Try.underlying51 hi hz hs .i64 .i64 n n n rfl rfl rfl rfl (by rw [hb]; omega) (by unfold maxLen; omega) (Nat.le_refl _) ?_
                 intro w' ho hg
                 have HO := Aside0.mk ho
                 have HG := Aside0.mk hg
                 clear ho hg)
    go_ret
    obtain ⟨k1, k2, k3⟩ := key n rfl _ HO.out HG.out
    exact ⟨_, rfl, k2, _, _, k1, k3⟩
/-! ### dry -/
def drySafe (S : List (List Int)) (L : List Wr) : List (List Int) := L.foldl (fun S q => S.set q.1.toNat q.2) S
theorem dry_take (S : List (List Int)) (L : List Wr) (k : Nat) (q : Wr) (hq : L[k]? = some q) : drySafe S (L.take (k + 1)) = (drySafe S (L.take k)).set q.1.toNat q.2 := by
  rw [List.take_add_one, hq]
  simp [drySafe, List.foldl_append]
theorem dry_length : ∀ (L : List Wr) (S : List (List Int)), (drySafe S L).length = S.length
  | [], S => rfl
  | q :: L, S => by
    have := dry_length L (S.set q.1.toNat q.2)
    simpa [drySafe] using this
theorem dry_sl : ∀ (L : List Wr) (S : List (List Int)), (∀ s ∈ S, s.length = 64) → (∀ q ∈ L, q.2.length = 64) → ∀ s ∈ drySafe S L, s.length = 64
  | [], S, hS, _ => hS
  | q :: L, S, hS, hL => by
    have := dry_sl L (S.set q.1.toNat q.2) (fun s hs => by
      rcases List.mem_or_eq_of_mem_set hs with h | rfl
      · exact hS s h
      · exact hL q (List.mem_cons_self ..)) (fun x hx => hL x (List.mem_cons_of_mem _ hx))
    simpa [drySafe] using this
theorem flatS_set : ∀ {L : List (List Int)} {i : Nat} {s : List Int}, (∀ s ∈ L, s.length = 64) → s.length = 64 → i < L.length → flatS (L.set i s) = (flatS L).take (i * 64) ++ U s ++ (flatS L).drop (i * 64 + 64)
  | [], i, s, _, _, h => by simp at h
  | t :: L, 0, s, hl, hs, h => by
    have ht := hl t (List.mem_cons_self ..)
    simp only [flatS, List.set_cons_zero, List.flatMap_cons, Nat.zero_mul, List.take_zero, List.nil_append, Nat.zero_add]
    rw [List.drop_append_of_le_length (by simp [ht]), List.drop_of_length_le (by simp [ht])]
    simp
  | t :: L, i + 1, s, hl, hs, h => by
    have ht := hl t (List.mem_cons_self ..)
    have ih := flatS_set (L := L) (i := i) (s := s) (fun x hx => hl x (List.mem_cons_of_mem _ hx)) hs (by simpa using h)
    have el : (U t).length = 64 := by simp [ht]
    simp only [flatS, List.set_cons_succ, List.flatMap_cons] at ih ⊢
    rw [ih, show (i + 1) * 64 = 64 + i * 64 by omega, ← el, List.take_length_add_append, el, show 64 + i * 64 + 64 = (U t).length + (i * 64 + 64) by omega, List.drop_length_add_append]
    simp
theorem safe_there {w : World} {c : Nat} {sv wv : Value} {p : St} (H : IsPlate w c sv wv p) {i : Nat} (hi : i < p.safe.length) : ∃ g cap, sv = .slice (some ⟨g, 0, none⟩) p.safe.length cap ∧ g < w.heap.size ∧ w.there g (i * 64) 64 ∧ p.safe.length ≤ cap := by
  obtain ⟨hl, (⟨_, e⟩ | ⟨g, cap, cur, rfl, _, hg, h4, _, h6, h7⟩)⟩ := H.srow
  · omega
  · refine ⟨g, cap, rfl, blk_lt hg, fun j hj => ⟨?_, blk_frozen hg _⟩, h4⟩
    rw [blk_cell hg]
    have h8 : p.safe.length * 64 ≤ cap * 64 := Nat.mul_le_mul_right _ h4
    have : (i + 1) * 64 ≤ p.safe.length * 64 := Nat.mul_le_mul_right _ hi
    rw [Array.getElem?_eq_getElem (by omega)]
    rfl
/-- A sector is overwritten. -/
theorem IsPlate.setSafe {w : World} {c : Nat} {wv : Value} {p : St} {g cap : Nat} (H : IsPlate w c (.slice (some ⟨g, 0, none⟩) p.safe.length cap) wv p) {i : Nat} (hi : i < p.safe.length) {s : List Int} (hs : s.length = 64) :
    IsPlate (w.setCells g (i * 64) (U s)) c (.slice (some ⟨g, 0, none⟩) p.safe.length cap) wv { p with safe := p.safe.set i s } ∧ Fr w (w.setCells g (i * 64) (U s)) (fun k => k = g) := by
  have F := fr_setCells (g := g) (U s) (i * 64) w
  refine ⟨⟨F.at H.blk (fun e => H.srow.ne H.blk (by decide) (by rw [e]; simp [Value.ownBlock])), ?_, H.wrow.of (fun k hk => F.block k (H.wrow.lt k hk).1 (fun e => ?_)), ⟨fun x hx => ?_, H.fit.wl, by simpa using H.fit.at_, by simpa using H.fit.sn, H.fit.wn⟩⟩, F⟩
  · obtain ⟨hl, (⟨e, _⟩ | ⟨g', cap', cur, e, h2, hg, h4, h5, h6, h7⟩)⟩ := H.srow
    · cases e
    · injection e with e1 _ e2
      injection e1 with e1
      injection e1 with e1
      subst e1 e2
      have h8 : p.safe.length * 64 ≤ cap * 64 := Nat.mul_le_mul_right _ h4
      have h9 : (i + 1) * 64 ≤ p.safe.length * 64 := Nat.mul_le_mul_right _ hi
      have hU : (U s).length = 64 := by simp [hs]
      obtain ⟨es, q1, q2⟩ := setCells_put (U s) (i * 64) w cur hg (by omega)
      have hes : es.size = cur.size := by rw [← Array.length_toList, q2]; simp [hs]; omega
      refine ⟨?_, .inr ⟨g, cap, es, by simp, h2, q1, by simpa using h4, h5, by omega, ?_⟩⟩
      · dsimp only
        rw [flatS_len (fun x hx => ?_)]
        rcases List.mem_or_eq_of_mem_set hx with h | rfl
        · exact H.fit.sl x h
        · exact hs
      · dsimp only
        rw [flatS_set H.fit.sl hs hi, q2, List.length_set, hU, ← h7]
        have hcl : cur.toList.length = cur.size := Array.length_toList
        have e1 : (cur.toList.take (i * 64) ++ U s).length = i * 64 + 64 := by rw [List.length_append, List.length_take, hU, hcl]; omega
        rw [List.take_take, Nat.min_eq_left (by omega), List.take_append, e1, List.take_of_length_le (by rw [e1]; omega), List.drop_take]
  · obtain ⟨hl, (⟨e', _⟩ | ⟨g', cap', cur, e', h2, hg, h4, h5, h6, h7⟩)⟩ := H.srow
    · cases e'
    · injection e' with e1 _ e2
      injection e1 with e1
      injection e1 with e1
      subst e1 e2
      exact H.wrow.ne hg (by decide) (by rw [← show k = g from e]; exact hk)
  · rcases List.mem_or_eq_of_mem_set hx with h | rfl
    · exact H.fit.sl x h
    · exact hs
theorem run_sector {w : World} {g o : Nat} {s : List Int} (h : w.rangeAt g o (U s)) (hs : s.length = 64) : (Instr.loadAt 55 (.pointer (some ⟨g, o, none⟩))).run Try.prog w = .ok (.agg (U s).toArray) w :=
  run_loadAt_mid w g o 55 (U s) _ h Try.underlying55 rfl (by rw [info55]; simp [hs])
theorem IsPlate.dropWet {w : World} {c : Nat} {sv wv : Value} {p : St} (h : IsPlate w c sv wv p) : IsPlate (w.setCell ⟨c, 1, none⟩ (.slice none 0 0)) c sv (.slice none 0 0) { p with wet := [] } := by
  refine ⟨blk_put h.blk 1 _ rfl, ?_, rowP_none _ _ _ _, ⟨h.fit.sl, fun q hq => by simp at hq, fun q hq => by simp at hq, h.fit.sn, by simp⟩⟩
  exact h.srow.of (fun g hg => Below.heap_setCell w _ _ g (fun e => h.srow.ne h.blk (by decide) (by rw [show c = g from e.symm]; exact hg)))
theorem still_load_mid {P : Program} {ops : Array Oper} {w : World} {Q : Act → Prop} {rest : List Oper} {op : Oper} {a : Act} (hgd : op.guard = none) (ty : TypeId) (x : Operand) (ho : op.op = .load ty x)
    (b o : Nat) (hx : a.eval x = .pointer (some ⟨b, o, none⟩)) (cs : List Value) (d : TypeDesc) (hc : w.rangeAt b o cs)
    (hu : P.underlying ty = some d) (hd : d.isRow = true) (hi : (P.info? ty).map (·.size) = some cs.length)
    (h : wpStill P ops w Q rest (a.put op.dst (.agg cs.toArray))) : wpStill P ops w Q (op :: rest) a := by
  refine wpStill_step (fun K hK => ?_)
  rw [if_pos (by simp [Region.wanted, hgd])]
  unfold Oper.still execOp
  simp only [ho, hx, Instr.loadAt, Instr.sureAddr, Sem.run_bind, Sem.run_pure, Result.andThen_ok, run_loadVar_mid w b o ty cs d hc hu hd hi]
  exact ⟨rfl, hK _ h⟩
def St.dry (p : St) (n : Nat) : St := { p with safe := drySafe p.safe (p.wet.take n), wet := [] }
theorem own_trans {w W : World} {c : Nat} {sv wv : Value} {p : St} (H : IsPlate w c sv wv p) : ∀ k, Own c sv wv k → k < w.heap.size := fun k hk => H.lt hk
set_option maxHeartbeats 4000000 in
set_option maxRecDepth 100000 in
theorem dry_c {w : World} {c : Nat} {sv wv : Value} {p : St} (H : IsPlate w c sv wv p) (n : Nat) (hn : n ≤ p.wet.length) : Calls Try.prog 25 #[.pointer (some ⟨c, 0, none⟩), .int .i64 n] w fun e w' => e = .returned (.tuple #[]) ∧ IsPlate w' c sv (.slice none 0 0) (p.dry n) ∧ Fr w w' (Own c sv wv) := by
  have HI := Aside0.mk H
  have hwn : p.wet.length ≤ 1000 := H.fit.wn
  obtain ⟨Aw, capw, rfl⟩ := H.wrow.form
  have hcap : p.wet.length ≤ capw ∧ capw ≤ maxLen := by
    obtain ⟨_, (⟨e, e'⟩ | ⟨g, cap, cur, e, _, _, h4, h5, _⟩)⟩ := H.wrow
    · injection e with _ _ e; subst e; unfold maxLen; omega
    · injection e with _ _ e; subst e; exact ⟨h4, h5⟩
  obtain ⟨h0, h1, h2, h3, h4, h5, hf⟩ := cells6 H.blk
  have n1 : (n : Int) ≤ (capw : Int) := by omega
  have n2 : ¬ (n : Int) < 0 := by omega
  have HN := Aside0.mk hn
  clear H
  go_enter Try.func25, Try.ntmps25
  go_wp2_with fail
  go_loopg [13] n (fun kq v13 wr => ∃ k : Nat, v13 = .int .i64 k ∧ k ≤ n ∧ Aside0 (kq = n - k) ∧ Aside0 (IsPlate wr c sv (.slice Aw p.wet.length capw) { p with safe := drySafe p.safe (p.wet.take k) } ∧ Fr w wr (Own c sv (.slice Aw p.wet.length capw))))
  case atStart => exact ⟨0, rfl, by omega, ⟨rfl⟩, ⟨HI.out, Fr.refl _ _⟩⟩
  case round =>
    obtain ⟨k, rfl, hk, hkq, HT⟩ := hrel
    by_cases hlt : k < n
    · obtain ⟨q, hq⟩ : ∃ q, p.wet[k]? = some q := ⟨_, List.getElem?_eq_getElem (by have := HN.out; omega)⟩
      have hqm := List.mem_of_getElem? hq
      have hq64 : q.2.length = 64 := HI.out.fit.wl q hqm
      have hqa := HI.out.fit.at_ q hqm
      obtain ⟨gw, cw, ew, hgw, hrw⟩ := wet_form HT.out.1 hq
      injection ew with ew1 _ ew2
      subst ew1 ew2
      obtain ⟨q1, q2⟩ := q
      dsimp only at hq64 hqa hrw
      obtain ⟨i, rfl⟩ := Int.eq_ofNat_of_zero_le hqa.1
      have hdl : (drySafe p.safe (p.wet.take k)).length = p.safe.length := dry_length _ _
      have hi : i < (drySafe p.safe (p.wet.take k)).length := by rw [hdl]; omega
      obtain ⟨gs, caps, rfl, hgs, hth, hcs⟩ := safe_there HT.out.1 hi
      dsimp only at hth hcs
      have hdry := dry_take p.safe p.wet k _ hq
      have HD := Aside0.mk hdry
      have HRW := Aside0.mk hrw
      have HTH := Aside0.mk hth
      have k1 : (k : Int) < n := by omega
      have k2 : ¬ (k : Int) < 0 := by omega
      have HLT := Aside0.mk hlt
      have HLI := Aside0.mk hi
      have i1 : (i : Int) < (drySafe p.safe (p.wet.take k)).length := by omega
      have i2 : ¬ (i : Int) < 0 := by omega
      have hz57 := zero57
      clear hrw hth h0 h1 h2 h3 h4 h5 hf hdry
      go_wp2_with (first
        | (refine wpList_load_mid rfl 57 (.tmp 15) rfl gw (k * 65) rfl (.int .i64 (i : Int) :: U q2) _ HRW.out Try.underlying57 rfl (by rw [info57]; simp [hq64]) ?_)
        | (refine wp_store_new rfl 57 (.tmp 5) (.tmp 16) rfl (Value.int .i64 (i : Int) :: U q2).toArray rfl rfl (by rw [info57]; simp [hq64]) (by rw [Z65_size]; simp [hq64]) (oneW _ q2) ?_
           intro W hv5 hW
           have FW : Aside0 (Below wr.heap.size wr W) := ⟨by rw [hW]; exact below_alloc (Below.refl _ _) _⟩
           obtain ⟨g5, hg5⟩ : ∃ g5, g5 = wr.heap.size := ⟨_, rfl⟩
           rw [← hg5] at hv5 ⊢
           have HV5 := Aside0.mk hv5
           clear hW hv5 hg5))
      refine still_tail_at 9 (by kernel_rfl) (by kernel_rfl) ?_
      intro V eV bV
      have FV : Aside0 (Fr wr V (fun _ => False)) := ⟨(Fr.of_below FW.out _).trans ⟨bV.os, bV.tape, bV.output, bV.size, fun i _ _ => by rw [eV]⟩⟩
      have HP : Aside0 (IsPlate V c (.slice (some ⟨gs, 0, none⟩) (drySafe p.safe (p.wet.take k)).length caps) (.slice (some ⟨gw, 0, none⟩) p.wet.length capw) { p with safe := drySafe p.safe (p.wet.take k) }) := ⟨HT.out.1.keep FV.out (fun _ _ h => h)⟩
      have hv5 : V.heap[g5]? = some (.cells (Value.int .i64 (i : Int) :: U q2).toArray 57 (0, 0)) := by rw [eV]; exact HV5.out
      have hc5 : V.cell? ⟨g5, 0, none⟩ = some (.int .i64 (i : Int)) := (blk_cell hv5 0).trans rfl
      have hr5 : V.rangeAt g5 1 (U q2) := fun j v hv => (blk_cell hv5 (1 + j)).trans (by rw [Nat.add_comm]; simpa using hv)
      obtain ⟨g', c', e', _, hthV, _⟩ := safe_there HP.out hi
      injection e' with e1 _ e2
      injection e1 with e1
      injection e1 with e1
      subst e1 e2
      have HTV := Aside0.mk hthV
      obtain ⟨h0, h1, h2, h3, h4, h5, hf⟩ := cells6 HP.out.blk
      dsimp only at h0 h1 h2 h3 h4 h5
      clear hv5 hthV HV5 FW HTH HRW
      simp only [List.take_succ_cons, List.take_zero, List.drop_succ_cons, List.drop_zero]
      iterate 7 still_step
      refine still_load_mid rfl 55 (.tmp 23) rfl g5 1 rfl (U q2) _ hr5 Try.underlying55 rfl (by rw [info55]; simp [hq64]) ?_
      clear hr5
      simp only [Act.put, List.setIfInBounds_toArray, List.set_cons_zero, List.set_cons_succ]
      still_step
      refine wpStill_nil ?_
      go_wp2_with (refine wpList_store_mid rfl 55 (.tmp 25) (.tmp 24) rfl gs (i * 64) (U q2).toArray rfl rfl (by simpa [hq64] using HTV.out) (by rw [info55]; simp [hq64]) (oneU q2) ?_)
      go_roundg (n - (k + 1))
      case measure => have := hkq.out; have := HLT.out; omega
      case rel =>
        obtain ⟨e1, e2⟩ := IsPlate.setSafe (p := { p with safe := drySafe p.safe (p.wet.take k) }) HP.out HLI.out hq64
        refine ⟨k + 1, by go_num, by have := HLT.out; omega, ⟨rfl⟩, ⟨by rw [HD.out]; exact e1, ?_⟩⟩
        exact (HT.out.2.trans' FV.out (fun _ _ h => h.elim)).trans' e2 (fun j _ e => .inr (.inl (by rw [e]; simp [Value.ownBlock])))
    · obtain rfl : k = n := by omega
      obtain ⟨h0, h1, h2, h3, h4, h5, hf⟩ := cells6 HT.out.1.blk
      go_wp2_with fail
      refine bodyPost_end (results_none rfl _ _ _) rfl ?_
      exact ⟨rfl, HT.out.1.dropWet, HT.out.2.set (p := ⟨c, 1, none⟩) (.inl (.inl rfl)) _⟩
def St.flush (p : St) : St × Int := if p.act.2 = 0 then (p.act.1.dry p.act.1.wet.length, 0) else p.act
theorem act_wet (p : St) : p.act.1.wet = p.wet ∧ p.act.1.safe = p.safe ∧ p.act.1.spare = p.spare ∧ (p.act.2 = 0 ∨ p.act.2 = 7) := by
  unfold St.act; split
  · exact ⟨rfl, rfl, rfl, .inr rfl⟩
  · split
    · exact ⟨rfl, rfl, rfl, .inr rfl⟩
    · exact ⟨rfl, rfl, rfl, .inl rfl⟩
theorem flush_nil (w : World) : Calls Try.prog 11 #[.pointer none] w fun e w' => e = .returned (.int .i64 7) ∧ w' = w := by
  go_enter Try.func11, Try.ntmps11
  go_wp2_with fail
  go_at_call 23
  refine (act_nil _).mono ?_
  rintro e w1 ⟨rfl, rfl⟩
  go_wp2_with fail
  go_ret
  exact ⟨rfl, rfl⟩
theorem flush_c {w : World} {c : Nat} {sv wv : Value} {p : St} (H : IsPlate w c sv wv p) : Calls Try.prog 11 #[.pointer (some ⟨c, 0, none⟩)] w fun e w' => e = .returned (.int .i64 p.flush.2) ∧ (∃ wv', IsPlate w' c sv wv' p.flush.1 ∧ (∀ k, Own c sv wv' k → Own c sv wv k)) ∧ Fr w w' (Own c sv wv) := by
  rcases (act_wet p).2.2.2 with ha | ha
  · rw [show p.flush = (p.act.1.dry p.act.1.wet.length, 0) from by simp [St.flush, ha]]
    go_enter Try.func11, Try.ntmps11
    go_wp2_with fail
    go_at_call 23
    refine (act_c H).mono ?_
    rintro e w1 ⟨rfl, h1, f1⟩
    have F1 := Aside0.mk (f1.mono (S' := Own c sv wv) (fun i h => .inl h))
    rw [ha]
    have H1 := Aside0.mk h1
    obtain ⟨Aw, cw, rfl⟩ := h1.wrow.form
    obtain ⟨h0, h1', h2, h3, h4, h5, hf⟩ := cells6 h1.blk
    clear h1 f1
    go_wp2_with fail
    go_at_call 25
    refine (dry_c H1.out _ (Nat.le_refl _)).mono ?_
    rintro e w2 ⟨rfl, h2, f2⟩
    go_wp2_with fail
    go_ret
    exact ⟨rfl, ⟨_, h2, fun k hk => hk.elim .inl (fun h => h.elim (fun h => .inr (.inl h)) (fun h => by simp [Value.ownBlock] at h))⟩, F1.out.trans f2⟩
  · rw [show p.flush = (p.act.1, 7) from by simp only [St.flush, ha]; exact Prod.ext rfl ha]
    go_enter Try.func11, Try.ntmps11
    go_wp2_with fail
    go_at_call 23
    refine (act_c H).mono ?_
    rintro e w1 ⟨rfl, h1, f1⟩
    have F1 := Aside0.mk (f1.mono (S' := Own c sv wv) (fun i h => .inl h))
    rw [ha]
    go_wp2_with fail
    go_ret
    exact ⟨rfl, ⟨_, h1, fun _ h => h⟩, F1.out⟩
def St.fall (p : St) (keep : Nat) : St := { p.dry (min keep p.wet.length) with off := false, left := -1, spare := 0 }
theorem fall_nil (x : Int) (w : World) : Calls Try.prog 14 #[.pointer none, .int .i64 x] w fun e w' => e = .returned (.tuple #[]) ∧ w' = w := by
  go_enter Try.func14, Try.ntmps14
  go_wp2
  refine bodyPost_ret (results_none rfl _ _ _) rfl ?_
  exact ⟨rfl, rfl⟩
theorem fall_c {w : World} {c : Nat} {sv wv : Value} {p : St} (H : IsPlate w c sv wv p) (x : Int) : Calls Try.prog 14 #[.pointer (some ⟨c, 0, none⟩), .int .i64 x] w fun e w' => e = .returned (.tuple #[]) ∧ IsPlate w' c sv (.slice none 0 0) (p.fall x.toNat) ∧ Fr w w' (Own c sv wv) := by
  have HI := Aside0.mk H
  obtain ⟨Aw, cw, rfl⟩ := H.wrow.form
  obtain ⟨h0, h1, h2, h3, h4, h5, hf⟩ := cells6 H.blk
  have main : ∀ (m : Nat) (w2 : World), m = min x.toNat p.wet.length → IsPlate w2 c sv (.slice none 0 0) (p.dry m) → Fr w w2 (Own c sv (.slice Aw p.wet.length cw)) →
      IsPlate (((w2.setCell ⟨c, 3, none⟩ (.bool false)).setCell ⟨c, 2, none⟩ (.int .i64 (-1))).setCell ⟨c, 5, none⟩ (.int .i64 0)) c sv (.slice none 0 0) (p.fall x.toNat) ∧ Fr w (((w2.setCell ⟨c, 3, none⟩ (.bool false)).setCell ⟨c, 2, none⟩ (.int .i64 (-1))).setCell ⟨c, 5, none⟩ (.int .i64 0)) (Own c sv (.slice Aw p.wet.length cw)) := by
    intro m w2 hm h f
    subst hm
    have q1 := h.put (p' := { p.dry (min x.toNat p.wet.length) with off := false }) 3 (.bool false) rfl rfl rfl
    have q2 := q1.put (p' := { p.dry (min x.toNat p.wet.length) with off := false, left := -1 }) 2 (.int .i64 (-1)) rfl rfl rfl
    have q3 := q2.put (p' := p.fall x.toNat) 5 (.int .i64 0) rfl rfl rfl
    exact ⟨q3, ((f.set (p := ⟨c, 3, none⟩) (.inl (.inl rfl)) _).set (p := ⟨c, 2, none⟩) (.inl (.inl rfl)) _).set (p := ⟨c, 5, none⟩) (.inl (.inl rfl)) _⟩
  have HM := Aside0.mk main
  clear main H
  by_cases hx : x < 0
  · go_enter Try.func14, Try.ntmps14
    go_wp2_with fail
    go_at_call 25
    refine (dry_c HI.out 0 (by omega)).mono ?_
    rintro e w2 ⟨rfl, q1, q2⟩
    obtain ⟨h0, h1, h2, h3, h4, h5, hf⟩ := cells6 q1.blk
    obtain ⟨r1, r2⟩ := HM.out 0 w2 (by omega) q1 q2
    have R1 := Aside0.mk r1
    have R2 := Aside0.mk r2
    clear q1 q2 r1 r2
    go_wp2_with fail
    refine bodyPost_end (results_none rfl _ _ _) rfl ?_
    exact ⟨rfl, R1.out, R2.out⟩
  by_cases hy : (p.wet.length : Int) < x
  · go_enter Try.func14, Try.ntmps14
    go_wp2_with fail
    go_at_call 25
    refine (dry_c HI.out p.wet.length (by omega)).mono ?_
    rintro e w2 ⟨rfl, q1, q2⟩
    obtain ⟨h0, h1, h2, h3, h4, h5, hf⟩ := cells6 q1.blk
    obtain ⟨r1, r2⟩ := HM.out p.wet.length w2 (by omega) q1 q2
    have R1 := Aside0.mk r1
    have R2 := Aside0.mk r2
    clear q1 q2 r1 r2
    go_wp2_with fail
    refine bodyPost_end (results_none rfl _ _ _) rfl ?_
    exact ⟨rfl, R1.out, R2.out⟩
  · obtain ⟨m, rfl⟩ := Int.eq_ofNat_of_zero_le (show 0 ≤ x by omega)
    go_enter Try.func14, Try.ntmps14
    go_wp2_with fail
    go_at_call 25
    refine (dry_c HI.out m (by omega)).mono ?_
    rintro e w2 ⟨rfl, q1, q2⟩
    obtain ⟨h0, h1, h2, h3, h4, h5, hf⟩ := cells6 q1.blk
    obtain ⟨r1, r2⟩ := HM.out m w2 (by simp; omega) q1 q2
    have R1 := Aside0.mk r1
    have R2 := Aside0.mk r2
    clear q1 q2 r1 r2
    go_wp2_with fail
    refine bodyPost_end (results_none rfl _ _ _) rfl ?_
    exact ⟨rfl, R1.out, R2.out⟩
end Go.Proofs.Ytcobkideokljfaa
