/- Store.Hear: the five ways of what is asked of a store. -/
import Derived.Test.YtjfckbdeadnfhaaStoreA
import Derived.Maps.RangeWalk
namespace Go.Proofs.Ytjfckbdeadnfhaa
open Go.RowKit Go.Maps Go.Proofs.YtjfckbdeadnfhaaW.PrintWords
set_option linter.unusedVariables false
theorem Fr.drewN {a w : World} {S : Nat → Prop} (h : Fr a w S) (m : Nat) : Fr a (w.drewN m) S := ⟨h.os, h.tape, h.output, h.size, h.block⟩
theorem wpList_entry {H : Type} {P : Program} (w : World) {ops : Array Oper} {rest : List Oper} {o : Oper} {a : Act} {Q : Exit → Act → World → Prop}
    (hg : o.guard = none) (m x : Operand) (t : TypeId) (hop : o.op = Op.mapEntry t m x) (k e : TypeId) (K : WideMaps.KeyLaw P k) (ht : P.underlying t = some (.map k e)) {z : Value} (hz : ∀ u : World, (zeroValue e).run P u = .ok z u)
    (R : Value → Option (DataW H × List MemPlace)) (b n : Nat) (D : DataW H) (hm : a.eval m = .map (some b)) (hown : w.ownsMap P k R b n D) (hn : n < maxLen) (key : Value) (kl : Lit) (hx : a.eval x = key) (hkey : keyOf P k key = some kl)
    (hK : ∀ v0 st w1, w.grownBy w1 (some b) → (∃ es cl, w1.heap[b]? = some (.map es cl)) → (∀ (w2 : World) (val : Value) (d : DataW H) (ps : List MemPlace), w2.heap[b]? = w1.heap[b]? → R val = some (d, ps) → ∃ w3, (Instr.entryStore t (.map (some b)) (goInt st) val).run P w2 = .ok () w3 ∧ w3.ownsMap P k R b (n + 1) (D.put kl d) ∧ w2.grownBy w3 (some b)) → wpList P ops Q rest (a.put o.dst (.tuple #[v0, goInt st])) w1) :
    wpList P ops Q (o :: rest) a w := by
  refine wpList_plain hg fun K' hK' => ?_
  obtain ⟨es, clock, hb, F, hs, hD⟩ := hown
  obtain ⟨v0, st, es1, clock1, hE, _, hS⟩ := WideElems.entry_then_store K ht hz hb F hkey
  unfold Oper.wp
  simp [execOp, hop, hm, hx, hE, Result.andThen]
  refine hK' _ _ (hK v0 st _ ⟨rfl, rfl, rfl, by simp [ChangeMaps.setBlock], fun i _ hi => ChangeMaps.heap_setBlock_other hb _ (fun e => hi (by rw [e]))⟩ ⟨_, _, ChangeMaps.heap_setBlock_same hb _⟩ fun w2 val d ps hw2 hv => ?_)
  rw [ChangeMaps.heap_setBlock_same hb] at hw2
  obtain ⟨es', clock', h1, h2⟩ := hS w2 val hw2
  obtain ⟨w', h3, h4, _⟩ := World.ownsMap.update (n := n) ⟨es, clock, hb, F, hs, hD⟩ (Keyed.of_law K) ht hn hkey hv
  rw [h2] at h3
  injection h3 with _ h3
  subst h3
  exact ⟨_, h1, map_of h4 ((ChangeMaps.heap_setBlock_same hw2 _).trans (ChangeMaps.heap_setBlock_same hb _).symm), ⟨rfl, rfl, rfl, by simp [ChangeMaps.setBlock], fun i _ hi => ChangeMaps.heap_setBlock_other hw2 _ (fun e => hi (by rw [e]))⟩⟩
theorem wpList_entryStore {P : Program} (w : World) {ops : Array Oper} {rest : List Oper} {o : Oper} {a : Act} {Q : Exit → Act → World → Prop}
    (hg : o.guard = none) (m s v : Operand) (t : TypeId) (hop : o.op = Op.entryStore t m s v) (mv sv val : Value) (hm : a.eval m = mv) (hs : a.eval s = sv) (hv : a.eval v = val) (w3 : World) (hrun : (Instr.entryStore t mv sv val).run P w = .ok () w3) (hK : wpList P ops Q rest (a.put o.dst undef) w3) :
    wpList P ops Q (o :: rest) a w := by
  refine wpList_plain hg fun K' hK' => ?_
  unfold Oper.wp
  simp [execOp, hop, hm, hs, hv, hrun, Result.andThen]
  exact hK' _ _ hK

set_option maxHeartbeats 8000000 in
theorem hear_known {H : Type} (c bm ba n1 n2 : Nat) (D1 D2 : DataW H) (k s y t a d v : Int) (kl : Lit) (w : World) (hd : (d != 0) = false) (hne : bm ≠ ba) (hb : w.heap[c]? = some (.cells #[.map (some bm), .map (some ba)] 47 (0, 0))) (hs1 : w.ownsMap Try.prog 49 (plainElem Try.prog 5) bm n1 D1) (hs2 : w.ownsMap Try.prog 49 (plainElem Try.prog 4) ba n2 D2) (hkey : keyOf Try.prog 49 (.agg #[.int .i64 s, .int .i64 y]) = some kl) (hk : (k != 3) = false) (hk3 : (k == 4) = false) (u : Int) (hh : Maps.has D1 kl = true) (hat : D1.atKey kl (.lit (.int .u8 0)) = .lit (.int .u8 u)) :
    Calls Try.prog 9 #[.pointer (some ⟨c, 0, none⟩), nt k s y t a d, .int .u8 v] w fun e w' => e = .returned (.tuple #[nt k s y t a u, .bool true]) ∧ w'.ownsMap Try.prog 49 (plainElem Try.prog 5) bm n1 D1 ∧ w'.ownsMap Try.prog 49 (plainElem Try.prog 4) ba n2 D2 ∧ Fr w w' (fun i => i = bm ∨ i = ba) := by
  have HH := Aside0.mk hh
  have HAT := Aside0.mk hat
  clear hh hat
  have hlt := blk_lt hb
  have HNE := Aside0.mk hne
  clear hne
  go_enter Try.func9, Try.ntmps9
  go_wp2
  obtain ⟨W, hWd⟩ : ∃ W, W = (((w.alloc (Obj.cells #[Value.int IntKind.u8 k, Value.int IntKind.i64 s, Value.int IntKind.i64 y, Value.int IntKind.i64 t, Value.int IntKind.i64 a, Value.int IntKind.u8 d] 27)).alloc (Obj.cells #[Value.int IntKind.u8 0, Value.int IntKind.i64 0, Value.int IntKind.i64 0, Value.int IntKind.i64 0, Value.int IntKind.i64 0, Value.int IntKind.u8 0] 27)).alloc (Obj.cells #[Value.int IntKind.i64 s, Value.int IntKind.i64 y] 49)) := ⟨_, rfl⟩
  rw [← hWd]
  have s0 : W.ownsMap Try.prog 49 (plainElem Try.prog 5) bm n1 D1 := by rw [hWd]; exact ((hs1.alloc _).alloc _).alloc _
  have t0 : W.ownsMap Try.prog 49 (plainElem Try.prog 4) ba n2 D2 := by rw [hWd]; exact ((hs2.alloc _).alloc _).alloc _
  have b4 : W.heap[c]? = some (.cells #[.map (some bm), .map (some ba)] 47 (0, 0)) := by rw [hWd]; exact blk_alloc (blk_alloc (blk_alloc hb _) _) _
  have hBW : Below w.heap.size w W := by rw [hWd]; repeat (first | exact Below.refl _ _ | (refine Below.alloc ?_ (by simp; try omega) _))
  have FW : Aside0 (Fr w W (fun i => i = bm ∨ i = ba)) := ⟨Fr.of_below hBW _⟩
  obtain ⟨g1, hg1⟩ : ∃ g, g = w.heap.size := ⟨_, rfl⟩
  have b0 : W.heap[g1]? = some (.cells #[.int .u8 k, .int .i64 s, .int .i64 y, .int .i64 t, .int .i64 a, .int .u8 d] 27 (0, 0)) := by rw [hWd, hg1]; exact blk_alloc (blk_alloc (blk_new _ _) _) _
  have b1 : W.heap[g1 + 1]? = some (.cells #[.int .u8 0, .int .i64 0, .int .i64 0, .int .i64 0, .int .i64 0, .int .u8 0] 27 (0, 0)) := by rw [hWd, hg1]; exact blk_alloc (heap_alloc2_new w _ _) _
  have b2 : W.heap[g1 + 1 + 1]? = some (.cells #[.int .i64 s, .int .i64 y] 49 (0, 0)) := by rw [hWd, hg1]; simpa using blk_new ((w.alloc (Obj.cells #[Value.int IntKind.u8 k, Value.int IntKind.i64 s, Value.int IntKind.i64 y, Value.int IntKind.i64 t, Value.int IntKind.i64 a, Value.int IntKind.u8 d] 27)).alloc (Obj.cells #[Value.int IntKind.u8 0, Value.int IntKind.i64 0, Value.int IntKind.i64 0, Value.int IntKind.i64 0, Value.int IntKind.i64 0, Value.int IntKind.u8 0] 27)) (Obj.cells #[Value.int IntKind.i64 s, Value.int IntKind.i64 y] 49)
  rw [← hg1]
  have hlW : W.heap.size = g1 + 1 + 1 + 1 := by rw [hWd, hg1]; simp
  have hlg : c < g1 := by rw [hg1]; exact hlt
  have nbm : bm < g1 := by rw [hg1]; exact hs1.lt
  have nba : ba < g1 := by rw [hg1]; exact hs2.lt
  have HNM := Aside0.mk nbm
  have HNA := Aside0.mk nba
  have HLG := Aside0.mk hlg
  have HG := Aside0.mk hg1
  have HK := Aside0.mk hkey
  clear hWd hs1 hs2 hb hlt hg1 hBW hlW nbm nba hkey
  obtain ⟨hn0, hn1, hn2, hn3, hn4, hn5, hnf⟩ := cells6 b0
  obtain ⟨hr0, hr1, hr2, hr3, hr4, hr5, hrf⟩ := cells6 b1
  obtain ⟨hx0, hx1, hxf⟩ := cells2 b2
  obtain ⟨hc0, hc1, hcf⟩ := cells2 b4
  have hrunN : ∀ nq, (Instr.lookup 44 (.map (some bm)) (.agg #[.int .i64 s, .int .i64 y]) true).run Try.prog (W.drewN nq) = .ok (.tuple #[.int .u8 u, .bool true]) (W.drewN nq) := by
    intro nq
    have hownN : (W.drewN nq).ownsMap Try.prog 49 (plainElem Try.prog 5) bm n1 D1 := s0
    obtain ⟨v1, ps, hrun, hv⟩ := hownN.look_ok lawK Try.underlying44 (zero5 _) (plainElem_int Try.underlying5 (by decide)) HK.out
    rw [HAT.out] at hv
    obtain ⟨u', rfl, hu', _⟩ := plainElem_int_inv Try.underlying5 hv
    obtain rfl : (u : Int) = u' := by simpa using congrArg Prod.fst hu'
    rw [HH.out] at hrun
    exact hrun
  have hrun0 := hrunN 0
  go_quiet (fail)
  clear hrunN hrun0
  obtain ⟨X, hX⟩ : ∃ X, X = W.drewN nq := ⟨_, rfl⟩
  rw [← hX]
  have eX : X.heap = W.heap := by rw [hX]; rfl
  have sX : X.ownsMap Try.prog 49 (plainElem Try.prog 5) bm n1 D1 := map_of s0 (by rw [eX])
  have tX : X.ownsMap Try.prog 49 (plainElem Try.prog 4) ba n2 D2 := map_of t0 (by rw [eX])
  have FX : Aside0 (Fr w X (fun i => i = bm ∨ i = ba)) := ⟨by rw [hX]; exact Fr.drewN FW.out nq⟩
  rw [← eX] at b0 b1 b2 b4
  clear hn0 hn1 hn2 hn3 hn4 hn5 hnf hr0 hr1 hr2 hr3 hr4 hr5 hrf hx0 hx1 hxf hc0 hc1 hcf hX eX s0 t0 FW
  obtain ⟨hn0, hn1, hn2, hn3, hn4, hn5, hnf⟩ := cells6 b0
  obtain ⟨hr0, hr1, hr2, hr3, hr4, hr5, hrf⟩ := cells6 b1
  obtain ⟨hx0, hx1, hxf⟩ := cells2 b2
  obtain ⟨hc0, hc1, hcf⟩ := cells2 b4
  go_wp2
  refine bodyPost_ret (results_ct Try.results9 _ _ (g1 + 1) 27 #[.int .u8 k, .int .i64 s, .int .i64 y, .int .i64 t, .int .i64 a, .int .u8 u] (0, 0) _ rfl ?hres Try.underlying27 rfl (by kernel_rfl)) rfl ?_
  case hres => exact put6 (blk_far b1 (show g1 + 1 ≠ g1 by omega) _)
  have e1 := HG.out
  have e2 := HNM.out
  have e3 := HNA.out
  subst e1
  exact ⟨by rfl, own7 sX (by omega) (by omega) _ _ _ _ _ _ _, own7 tX (by omega) (by omega) _ _ _ _ _ _ _, fr7 FX.out (Nat.le_refl _) (Nat.le_succ _) _ _ _ _ _ _ _⟩

set_option maxHeartbeats 8000000 in
theorem hear_no {H : Type} (c bm ba n1 n2 : Nat) (D1 D2 : DataW H) (k s y t a d v : Int) (kl : Lit) (w : World) (hd : (d != 0) = false) (hne : bm ≠ ba) (hb : w.heap[c]? = some (.cells #[.map (some bm), .map (some ba)] 47 (0, 0))) (hs1 : w.ownsMap Try.prog 49 (plainElem Try.prog 5) bm n1 D1) (hs2 : w.ownsMap Try.prog 49 (plainElem Try.prog 4) ba n2 D2) (hkey : keyOf Try.prog 49 (.agg #[.int .i64 s, .int .i64 y]) = some kl) (hk : (k != 3) = false) (hk3 : (k == 4) = false) (hh : Maps.has D1 kl = false) (hv1 : (v == 1) = false) (hnm : n1 < maxLen) :
    Calls Try.prog 9 #[.pointer (some ⟨c, 0, none⟩), nt k s y t a d, .int .u8 v] w fun e w' => e = .returned (.tuple #[nt k s y t a 3, .bool true]) ∧ w'.ownsMap Try.prog 49 (plainElem Try.prog 5) bm (n1 + 1) (D1.put kl (.lit (.int .u8 3))) ∧ w'.ownsMap Try.prog 49 (plainElem Try.prog 4) ba n2 D2 ∧ Fr w w' (fun i => i = bm ∨ i = ba) := by
  have HH := Aside0.mk hh
  have HN := Aside0.mk hnm
  clear hh hnm
  have hlt := blk_lt hb
  have HNE := Aside0.mk hne
  clear hne
  go_enter Try.func9, Try.ntmps9
  go_wp2
  obtain ⟨W, hWd⟩ : ∃ W, W = (((w.alloc (Obj.cells #[Value.int IntKind.u8 k, Value.int IntKind.i64 s, Value.int IntKind.i64 y, Value.int IntKind.i64 t, Value.int IntKind.i64 a, Value.int IntKind.u8 d] 27)).alloc (Obj.cells #[Value.int IntKind.u8 0, Value.int IntKind.i64 0, Value.int IntKind.i64 0, Value.int IntKind.i64 0, Value.int IntKind.i64 0, Value.int IntKind.u8 0] 27)).alloc (Obj.cells #[Value.int IntKind.i64 s, Value.int IntKind.i64 y] 49)) := ⟨_, rfl⟩
  rw [← hWd]
  have s0 : W.ownsMap Try.prog 49 (plainElem Try.prog 5) bm n1 D1 := by rw [hWd]; exact ((hs1.alloc _).alloc _).alloc _
  have t0 : W.ownsMap Try.prog 49 (plainElem Try.prog 4) ba n2 D2 := by rw [hWd]; exact ((hs2.alloc _).alloc _).alloc _
  have b4 : W.heap[c]? = some (.cells #[.map (some bm), .map (some ba)] 47 (0, 0)) := by rw [hWd]; exact blk_alloc (blk_alloc (blk_alloc hb _) _) _
  have hBW : Below w.heap.size w W := by rw [hWd]; repeat (first | exact Below.refl _ _ | (refine Below.alloc ?_ (by simp; try omega) _))
  have FW : Aside0 (Fr w W (fun i => i = bm ∨ i = ba)) := ⟨Fr.of_below hBW _⟩
  obtain ⟨g1, hg1⟩ : ∃ g, g = w.heap.size := ⟨_, rfl⟩
  have b0 : W.heap[g1]? = some (.cells #[.int .u8 k, .int .i64 s, .int .i64 y, .int .i64 t, .int .i64 a, .int .u8 d] 27 (0, 0)) := by rw [hWd, hg1]; exact blk_alloc (blk_alloc (blk_new _ _) _) _
  have b1 : W.heap[g1 + 1]? = some (.cells #[.int .u8 0, .int .i64 0, .int .i64 0, .int .i64 0, .int .i64 0, .int .u8 0] 27 (0, 0)) := by rw [hWd, hg1]; exact blk_alloc (heap_alloc2_new w _ _) _
  have b2 : W.heap[g1 + 1 + 1]? = some (.cells #[.int .i64 s, .int .i64 y] 49 (0, 0)) := by rw [hWd, hg1]; simpa using blk_new ((w.alloc (Obj.cells #[Value.int IntKind.u8 k, Value.int IntKind.i64 s, Value.int IntKind.i64 y, Value.int IntKind.i64 t, Value.int IntKind.i64 a, Value.int IntKind.u8 d] 27)).alloc (Obj.cells #[Value.int IntKind.u8 0, Value.int IntKind.i64 0, Value.int IntKind.i64 0, Value.int IntKind.i64 0, Value.int IntKind.i64 0, Value.int IntKind.u8 0] 27)) (Obj.cells #[Value.int IntKind.i64 s, Value.int IntKind.i64 y] 49)
  rw [← hg1]
  have hlW : W.heap.size = g1 + 1 + 1 + 1 := by rw [hWd, hg1]; simp
  have hlg : c < g1 := by rw [hg1]; exact hlt
  have nbm : bm < g1 := by rw [hg1]; exact hs1.lt
  have nba : ba < g1 := by rw [hg1]; exact hs2.lt
  have HNM := Aside0.mk nbm
  have HNA := Aside0.mk nba
  have HLG := Aside0.mk hlg
  have HG := Aside0.mk hg1
  have HK := Aside0.mk hkey
  clear hWd hs1 hs2 hb hlt hg1 hBW hlW nbm nba hkey
  obtain ⟨hn0, hn1, hn2, hn3, hn4, hn5, hnf⟩ := cells6 b0
  obtain ⟨hr0, hr1, hr2, hr3, hr4, hr5, hrf⟩ := cells6 b1
  obtain ⟨hx0, hx1, hxf⟩ := cells2 b2
  obtain ⟨hc0, hc1, hcf⟩ := cells2 b4
  have hrunN : ∀ nq, (Instr.lookup 44 (.map (some bm)) (.agg #[.int .i64 s, .int .i64 y]) true).run Try.prog (W.drewN nq) = .ok (.tuple #[.int .u8 0, .bool false]) (W.drewN nq) := by
    intro nq
    have hownN : (W.drewN nq).ownsMap Try.prog 49 (plainElem Try.prog 5) bm n1 D1 := s0
    obtain ⟨v1, ps, hrun, hv⟩ := hownN.look_ok lawK Try.underlying44 (zero5 _) (plainElem_int Try.underlying5 (by decide)) HK.out
    rw [atKey_of_not_has HH.out] at hv
    obtain ⟨u', rfl, hu', _⟩ := plainElem_int_inv Try.underlying5 hv
    obtain rfl : (0 : Int) = u' := by simpa using congrArg Prod.fst hu'
    rw [HH.out] at hrun
    exact hrun
  have hrun0 := hrunN 0
  go_quiet (fail)
  clear hrunN hrun0
  obtain ⟨X, hX⟩ : ∃ X, X = W.drewN nq := ⟨_, rfl⟩
  rw [← hX]
  have eX : X.heap = W.heap := by rw [hX]; rfl
  have sX : X.ownsMap Try.prog 49 (plainElem Try.prog 5) bm n1 D1 := map_of s0 (by rw [eX])
  have tX : X.ownsMap Try.prog 49 (plainElem Try.prog 4) ba n2 D2 := map_of t0 (by rw [eX])
  have FX : Aside0 (Fr w X (fun i => i = bm ∨ i = ba)) := ⟨by rw [hX]; exact Fr.drewN FW.out nq⟩
  rw [← eX] at b0 b1 b2 b4
  clear hn0 hn1 hn2 hn3 hn4 hn5 hnf hr0 hr1 hr2 hr3 hr4 hr5 hrf hx0 hx1 hxf hc0 hc1 hcf hX eX s0 t0 FW
  obtain ⟨hn0, hn1, hn2, hn3, hn4, hn5, hnf⟩ := cells6 b0
  obtain ⟨hr0, hr1, hr2, hr3, hr4, hr5, hrf⟩ := cells6 b1
  obtain ⟨hx0, hx1, hxf⟩ := cells2 b2
  obtain ⟨hc0, hc1, hcf⟩ := cells2 b4
  go_wp2
  refine still_tail_at 6 (by kernel_rfl) (by kernel_rfl) ?_
  intro Y eY hY
  have sY : Y.ownsMap Try.prog 49 (plainElem Try.prog 5) bm n1 D1 := map_of sX (by rw [eY])
  have tY : Y.ownsMap Try.prog 49 (plainElem Try.prog 4) ba n2 D2 := map_of tX (by rw [eY])
  have FY : Aside0 (Fr w Y (fun i => i = bm ∨ i = ba)) := ⟨FX.out.trans (Fr.same eY hY _)⟩
  rw [← eY] at b0 b1 b2 b4
  clear hn0 hn1 hn2 hn3 hn4 hn5 hnf hr0 hr1 hr2 hr3 hr4 hr5 hrf hx0 hx1 hxf hc0 hc1 hcf hY eY sX tX FX
  obtain ⟨hn0, hn1, hn2, hn3, hn4, hn5, hnf⟩ := cells6 b0
  obtain ⟨hr0, hr1, hr2, hr3, hr4, hr5, hrf⟩ := cells6 b1
  obtain ⟨hx0, hx1, hxf⟩ := cells2 b2
  obtain ⟨hc0, hc1, hcf⟩ := cells2 b4
  simp only [List.take_succ_cons, List.take_zero, List.drop_succ_cons, List.drop_zero]
  repeat still_step
  refine wpStill_nil ?_
  go_wp2_with (at_mapUpdate; refine wpList_mapUpdate_own _ rfl _ _ _ 44 rfl 49 5 lawK Try.underlying44 _ bm n1 D1 rfl sY HN.out _ _ _ rfl rfl HK.out _ [] (plainElem_int Try.underlying5 (by decide)) ?_; intro Z sZ hZ; have tZ := tY.kept hZ (fun e => HNE.out (Option.some.inj e).symm); have b0_ := blk_grown b0 hZ (ne_map sY b0); have b1_ := blk_grown b1 hZ (ne_map sY b1); have b2_ := blk_grown b2 hZ (ne_map sY b2); have b4_ := blk_grown b4 hZ (ne_map sY b4); have FZ : Aside0 (Fr w Z (fun i => i = bm ∨ i = ba)) := ⟨FY.out.trans ⟨hZ.os, hZ.tape, hZ.output, hZ.size, fun i hi hn => hZ.block i hi (fun e => hn (.inl (by injection e)))⟩⟩; clear hn0 hn1 hn2 hn3 hn4 hn5 hnf hr0 hr1 hr2 hr3 hr4 hr5 hrf hx0 hx1 hxf hc0 hc1 hcf b0 b1 b2 b4 FY; obtain ⟨hn0, hn1, hn2, hn3, hn4, hn5, hnf⟩ := cells6 b0_; obtain ⟨hr0, hr1, hr2, hr3, hr4, hr5, hrf⟩ := cells6 b1_; obtain ⟨hx0, hx1, hxf⟩ := cells2 b2_; obtain ⟨hc0, hc1, hcf⟩ := cells2 b4_; have b0 := b0_; have b1 := b1_; have b2 := b2_; have b4 := b4_; clear b0_ b1_ b2_ b4_)
  refine bodyPost_ret (results_ct Try.results9 _ _ (g1 + 1) 27 #[.int .u8 k, .int .i64 s, .int .i64 y, .int .i64 t, .int .i64 a, .int .u8 3] (0, 0) _ rfl ?hres Try.underlying27 rfl (by kernel_rfl)) rfl ?_
  case hres => exact put6 (blk_far b1 (show g1 + 1 ≠ g1 by omega) _)
  have e1 := HG.out
  have e2 := HNM.out
  have e3 := HNA.out
  subst e1
  exact ⟨by rfl, own7 sZ (by omega) (by omega) _ _ _ _ _ _ _, own7 tZ (by omega) (by omega) _ _ _ _ _ _ _, fr7 FZ.out (Nat.le_refl _) (Nat.le_succ _) _ _ _ _ _ _ _⟩

set_option maxHeartbeats 8000000 in
theorem hear_yes {H : Type} (c bm ba n1 n2 : Nat) (D1 D2 : DataW H) (k s y t a d v : Int) (kl : Lit) (w : World) (hd : (d != 0) = false) (hne : bm ≠ ba) (hb : w.heap[c]? = some (.cells #[.map (some bm), .map (some ba)] 47 (0, 0))) (hs1 : w.ownsMap Try.prog 49 (plainElem Try.prog 5) bm n1 D1) (hs2 : w.ownsMap Try.prog 49 (plainElem Try.prog 4) ba n2 D2) (hkey : keyOf Try.prog 49 (.agg #[.int .i64 s, .int .i64 y]) = some kl) (hk : (k != 3) = false) (hk3 : (k == 4) = false) (hh : Maps.has D1 kl = false) (hv1 : (v == 1) = true) (hnm : n1 < maxLen) (hnm2 : n2 < maxLen) :
    Calls Try.prog 9 #[.pointer (some ⟨c, 0, none⟩), nt k s y t a d, .int .u8 v] w fun e w' => e = .returned (.tuple #[nt k s y t a 1, .bool true]) ∧ w'.ownsMap Try.prog 49 (plainElem Try.prog 5) bm (n1 + 1) (D1.put kl (.lit (.int .u8 1))) ∧ w'.ownsMap Try.prog 49 (plainElem Try.prog 4) ba (n2 + 1) (D2.put kl (.lit (.bool true))) ∧ Fr w w' (fun i => i = bm ∨ i = ba) := by
  have HH := Aside0.mk hh
  have HN := Aside0.mk hnm
  have HN2 := Aside0.mk hnm2
  clear hh hnm hnm2
  have hlt := blk_lt hb
  have HNE := Aside0.mk hne
  clear hne
  go_enter Try.func9, Try.ntmps9
  go_wp2
  obtain ⟨W, hWd⟩ : ∃ W, W = (((w.alloc (Obj.cells #[Value.int IntKind.u8 k, Value.int IntKind.i64 s, Value.int IntKind.i64 y, Value.int IntKind.i64 t, Value.int IntKind.i64 a, Value.int IntKind.u8 d] 27)).alloc (Obj.cells #[Value.int IntKind.u8 0, Value.int IntKind.i64 0, Value.int IntKind.i64 0, Value.int IntKind.i64 0, Value.int IntKind.i64 0, Value.int IntKind.u8 0] 27)).alloc (Obj.cells #[Value.int IntKind.i64 s, Value.int IntKind.i64 y] 49)) := ⟨_, rfl⟩
  rw [← hWd]
  have s0 : W.ownsMap Try.prog 49 (plainElem Try.prog 5) bm n1 D1 := by rw [hWd]; exact ((hs1.alloc _).alloc _).alloc _
  have t0 : W.ownsMap Try.prog 49 (plainElem Try.prog 4) ba n2 D2 := by rw [hWd]; exact ((hs2.alloc _).alloc _).alloc _
  have b4 : W.heap[c]? = some (.cells #[.map (some bm), .map (some ba)] 47 (0, 0)) := by rw [hWd]; exact blk_alloc (blk_alloc (blk_alloc hb _) _) _
  have hBW : Below w.heap.size w W := by rw [hWd]; repeat (first | exact Below.refl _ _ | (refine Below.alloc ?_ (by simp; try omega) _))
  have FW : Aside0 (Fr w W (fun i => i = bm ∨ i = ba)) := ⟨Fr.of_below hBW _⟩
  obtain ⟨g1, hg1⟩ : ∃ g, g = w.heap.size := ⟨_, rfl⟩
  have b0 : W.heap[g1]? = some (.cells #[.int .u8 k, .int .i64 s, .int .i64 y, .int .i64 t, .int .i64 a, .int .u8 d] 27 (0, 0)) := by rw [hWd, hg1]; exact blk_alloc (blk_alloc (blk_new _ _) _) _
  have b1 : W.heap[g1 + 1]? = some (.cells #[.int .u8 0, .int .i64 0, .int .i64 0, .int .i64 0, .int .i64 0, .int .u8 0] 27 (0, 0)) := by rw [hWd, hg1]; exact blk_alloc (heap_alloc2_new w _ _) _
  have b2 : W.heap[g1 + 1 + 1]? = some (.cells #[.int .i64 s, .int .i64 y] 49 (0, 0)) := by rw [hWd, hg1]; simpa using blk_new ((w.alloc (Obj.cells #[Value.int IntKind.u8 k, Value.int IntKind.i64 s, Value.int IntKind.i64 y, Value.int IntKind.i64 t, Value.int IntKind.i64 a, Value.int IntKind.u8 d] 27)).alloc (Obj.cells #[Value.int IntKind.u8 0, Value.int IntKind.i64 0, Value.int IntKind.i64 0, Value.int IntKind.i64 0, Value.int IntKind.i64 0, Value.int IntKind.u8 0] 27)) (Obj.cells #[Value.int IntKind.i64 s, Value.int IntKind.i64 y] 49)
  rw [← hg1]
  have hlW : W.heap.size = g1 + 1 + 1 + 1 := by rw [hWd, hg1]; simp
  have hlg : c < g1 := by rw [hg1]; exact hlt
  have nbm : bm < g1 := by rw [hg1]; exact hs1.lt
  have nba : ba < g1 := by rw [hg1]; exact hs2.lt
  have HNM := Aside0.mk nbm
  have HNA := Aside0.mk nba
  have HLG := Aside0.mk hlg
  have HG := Aside0.mk hg1
  have HK := Aside0.mk hkey
  clear hWd hs1 hs2 hb hlt hg1 hBW hlW nbm nba hkey
  obtain ⟨hn0, hn1, hn2, hn3, hn4, hn5, hnf⟩ := cells6 b0
  obtain ⟨hr0, hr1, hr2, hr3, hr4, hr5, hrf⟩ := cells6 b1
  obtain ⟨hx0, hx1, hxf⟩ := cells2 b2
  obtain ⟨hc0, hc1, hcf⟩ := cells2 b4
  have hrunN : ∀ nq, (Instr.lookup 44 (.map (some bm)) (.agg #[.int .i64 s, .int .i64 y]) true).run Try.prog (W.drewN nq) = .ok (.tuple #[.int .u8 0, .bool false]) (W.drewN nq) := by
    intro nq
    have hownN : (W.drewN nq).ownsMap Try.prog 49 (plainElem Try.prog 5) bm n1 D1 := s0
    obtain ⟨v1, ps, hrun, hv⟩ := hownN.look_ok lawK Try.underlying44 (zero5 _) (plainElem_int Try.underlying5 (by decide)) HK.out
    rw [atKey_of_not_has HH.out] at hv
    obtain ⟨u', rfl, hu', _⟩ := plainElem_int_inv Try.underlying5 hv
    obtain rfl : (0 : Int) = u' := by simpa using congrArg Prod.fst hu'
    rw [HH.out] at hrun
    exact hrun
  have hrun0 := hrunN 0
  go_quiet (fail)
  clear hrunN hrun0
  obtain ⟨X, hX⟩ : ∃ X, X = W.drewN nq := ⟨_, rfl⟩
  rw [← hX]
  have eX : X.heap = W.heap := by rw [hX]; rfl
  have sX : X.ownsMap Try.prog 49 (plainElem Try.prog 5) bm n1 D1 := map_of s0 (by rw [eX])
  have tX : X.ownsMap Try.prog 49 (plainElem Try.prog 4) ba n2 D2 := map_of t0 (by rw [eX])
  have FX : Aside0 (Fr w X (fun i => i = bm ∨ i = ba)) := ⟨by rw [hX]; exact Fr.drewN FW.out nq⟩
  rw [← eX] at b0 b1 b2 b4
  clear hn0 hn1 hn2 hn3 hn4 hn5 hnf hr0 hr1 hr2 hr3 hr4 hr5 hrf hx0 hx1 hxf hc0 hc1 hcf hX eX s0 t0 FW
  obtain ⟨hn0, hn1, hn2, hn3, hn4, hn5, hnf⟩ := cells6 b0
  obtain ⟨hr0, hr1, hr2, hr3, hr4, hr5, hrf⟩ := cells6 b1
  obtain ⟨hx0, hx1, hxf⟩ := cells2 b2
  obtain ⟨hc0, hc1, hcf⟩ := cells2 b4
  go_wp2
  refine still_tail_at 6 (by kernel_rfl) (by kernel_rfl) ?_
  intro Y eY hY
  have sY : Y.ownsMap Try.prog 49 (plainElem Try.prog 5) bm n1 D1 := map_of sX (by rw [eY])
  have tY : Y.ownsMap Try.prog 49 (plainElem Try.prog 4) ba n2 D2 := map_of tX (by rw [eY])
  have FY : Aside0 (Fr w Y (fun i => i = bm ∨ i = ba)) := ⟨FX.out.trans (Fr.same eY hY _)⟩
  rw [← eY] at b0 b1 b2 b4
  clear hn0 hn1 hn2 hn3 hn4 hn5 hnf hr0 hr1 hr2 hr3 hr4 hr5 hrf hx0 hx1 hxf hc0 hc1 hcf hY eY sX tX FX
  obtain ⟨hn0, hn1, hn2, hn3, hn4, hn5, hnf⟩ := cells6 b0
  obtain ⟨hr0, hr1, hr2, hr3, hr4, hr5, hrf⟩ := cells6 b1
  obtain ⟨hx0, hx1, hxf⟩ := cells2 b2
  obtain ⟨hc0, hc1, hcf⟩ := cells2 b4
  simp only [List.take_succ_cons, List.take_zero, List.drop_succ_cons, List.drop_zero]
  repeat still_step
  refine wpStill_nil ?_
  go_wp2_with (first | (refine wpList_entry _ rfl _ _ 45 rfl 49 4 law49 Try.underlying45 zero4 _ ba n2 D2 rfl tY HN2.out _ _ rfl HK.out ?_; intro v0 st Z hZ hmap hS; have NBA : Aside0 (∀ cs t, Z.heap[ba]? ≠ some (.cells cs t (0, 0))) := ⟨fun cs t e => by obtain ⟨es, cl, q⟩ := hmap; rw [q] at e; cases e⟩; clear hmap; have sZ := sY.kept hZ (fun e => HNE.out (Option.some.inj e)); have b0_ := blk_grown b0 hZ (ne_map tY b0); have b1_ := blk_grown b1 hZ (ne_map tY b1); have b2_ := blk_grown b2 hZ (ne_map tY b2); have b4_ := blk_grown b4 hZ (ne_map tY b4); have FZ : Aside0 (Fr w Z (fun i => i = bm ∨ i = ba)) := ⟨FY.out.trans ⟨hZ.os, hZ.tape, hZ.output, hZ.size, fun i hi hn => hZ.block i hi (fun e => hn (.inr (by injection e)))⟩⟩; clear hn0 hn1 hn2 hn3 hn4 hn5 hnf hr0 hr1 hr2 hr3 hr4 hr5 hrf hx0 hx1 hxf hc0 hc1 hcf b0 b1 b2 b4 FY; obtain ⟨hn0, hn1, hn2, hn3, hn4, hn5, hnf⟩ := cells6 b0_; obtain ⟨hr0, hr1, hr2, hr3, hr4, hr5, hrf⟩ := cells6 b1_; obtain ⟨hx0, hx1, hxf⟩ := cells2 b2_; obtain ⟨hc0, hc1, hcf⟩ := cells2 b4_; have b0 := b0_; have b1 := b1_; have b2 := b2_; have b4 := b4_; clear b0_ b1_ b2_ b4_; have HSE := Aside0.mk hS; clear hS hZ tY sY) | (obtain ⟨U, hU, tU, hg⟩ := HSE.out Z (.bool true) _ [] rfl (plainElem_bool Try.underlying4 true); refine wpList_entryStore _ rfl (.tmp 78) (.tmp 81) (.const (.bool true)) 45 rfl (.map (some ba)) (goInt st) (.bool true) rfl rfl rfl U hU ?_; have sU := sZ.kept hg (fun e => HNE.out (Option.some.inj e)); have nb_ : ∀ {i cs t}, Z.heap[i]? = some (.cells cs t (0, 0)) → some i ≠ some ba := fun h e => NBA.out _ _ ((congrArg (fun j => Z.heap[j]?) (Option.some.inj e)).symm.trans h); have b0_ := blk_grown b0 hg (nb_ b0); have b1_ := blk_grown b1 hg (nb_ b1); have b2_ := blk_grown b2 hg (nb_ b2); have b4_ := blk_grown b4 hg (nb_ b4); have FU : Aside0 (Fr w U (fun i => i = bm ∨ i = ba)) := ⟨FZ.out.trans ⟨hg.os, hg.tape, hg.output, hg.size, fun i hi hn => hg.block i hi (fun e => hn (.inr (by injection e)))⟩⟩; clear hn0 hn1 hn2 hn3 hn4 hn5 hnf hr0 hr1 hr2 hr3 hr4 hr5 hrf hx0 hx1 hxf hc0 hc1 hcf b0 b1 b2 b4 FZ; obtain ⟨hn0, hn1, hn2, hn3, hn4, hn5, hnf⟩ := cells6 b0_; obtain ⟨hr0, hr1, hr2, hr3, hr4, hr5, hrf⟩ := cells6 b1_; obtain ⟨hx0, hx1, hxf⟩ := cells2 b2_; obtain ⟨hc0, hc1, hcf⟩ := cells2 b4_; have b0 := b0_; have b1 := b1_; have b2 := b2_; have b4 := b4_; clear b0_ b1_ b2_ b4_; clear hU hg HSE sZ nb_))
  go_frame
  refine still_tail_at 6 (by kernel_rfl) (by kernel_rfl) ?_
  intro V eV hV
  have sV : V.ownsMap Try.prog 49 (plainElem Try.prog 5) bm n1 D1 := map_of sU (by rw [eV])
  have tV : V.ownsMap Try.prog 49 (plainElem Try.prog 4) ba (n2 + 1) (D2.put kl (.lit (.bool true))) := map_of tU (by rw [eV])
  have FV : Aside0 (Fr w V (fun i => i = bm ∨ i = ba)) := ⟨FU.out.trans (Fr.same eV hV _)⟩
  rw [← eV] at b0 b1 b2 b4
  clear hn0 hn1 hn2 hn3 hn4 hn5 hnf hr0 hr1 hr2 hr3 hr4 hr5 hrf hx0 hx1 hxf hc0 hc1 hcf hV eV sU tU FU
  obtain ⟨hn0, hn1, hn2, hn3, hn4, hn5, hnf⟩ := cells6 b0
  obtain ⟨hr0, hr1, hr2, hr3, hr4, hr5, hrf⟩ := cells6 b1
  obtain ⟨hx0, hx1, hxf⟩ := cells2 b2
  obtain ⟨hc0, hc1, hcf⟩ := cells2 b4
  simp only [List.take_succ_cons, List.take_zero, List.drop_succ_cons, List.drop_zero]
  repeat still_step
  refine wpStill_nil ?_
  go_wp2_with (at_mapUpdate; refine wpList_mapUpdate_own _ rfl _ _ _ 44 rfl 49 5 lawK Try.underlying44 _ bm n1 D1 rfl sV HN.out _ _ _ rfl rfl HK.out _ [] (plainElem_int Try.underlying5 (by decide)) ?_; intro Q sQ hQ; have tQ := tV.kept hQ (fun e => HNE.out (Option.some.inj e).symm); have b0_ := blk_grown b0 hQ (ne_map sV b0); have b1_ := blk_grown b1 hQ (ne_map sV b1); have b2_ := blk_grown b2 hQ (ne_map sV b2); have b4_ := blk_grown b4 hQ (ne_map sV b4); have FQ : Aside0 (Fr w Q (fun i => i = bm ∨ i = ba)) := ⟨FV.out.trans ⟨hQ.os, hQ.tape, hQ.output, hQ.size, fun i hi hn => hQ.block i hi (fun e => hn (.inl (by injection e)))⟩⟩; clear hn0 hn1 hn2 hn3 hn4 hn5 hnf hr0 hr1 hr2 hr3 hr4 hr5 hrf hx0 hx1 hxf hc0 hc1 hcf b0 b1 b2 b4 FV; obtain ⟨hn0, hn1, hn2, hn3, hn4, hn5, hnf⟩ := cells6 b0_; obtain ⟨hr0, hr1, hr2, hr3, hr4, hr5, hrf⟩ := cells6 b1_; obtain ⟨hx0, hx1, hxf⟩ := cells2 b2_; obtain ⟨hc0, hc1, hcf⟩ := cells2 b4_; have b0 := b0_; have b1 := b1_; have b2 := b2_; have b4 := b4_; clear b0_ b1_ b2_ b4_)
  refine bodyPost_ret (results_ct Try.results9 _ _ (g1 + 1) 27 #[.int .u8 k, .int .i64 s, .int .i64 y, .int .i64 t, .int .i64 a, .int .u8 1] (0, 0) _ rfl ?hres Try.underlying27 rfl (by kernel_rfl)) rfl ?_
  case hres => exact put6 (blk_far b1 (show g1 + 1 ≠ g1 by omega) _)
  have e1 := HG.out
  have e2 := HNM.out
  have e3 := HNA.out
  subst e1
  exact ⟨by rfl, own7 sQ (by omega) (by omega) _ _ _ _ _ _ _, own7 tQ (by omega) (by omega) _ _ _ _ _ _ _, fr7 FQ.out (Nat.le_refl _) (Nat.le_succ _) _ _ _ _ _ _ _⟩

set_option maxHeartbeats 8000000 in
theorem back_known {H : Type} (c bm ba n1 n2 : Nat) (D1 D2 : DataW H) (k s y t a d v : Int) (kl : Lit) (w : World) (hd : (d != 0) = false) (hne : bm ≠ ba) (hb : w.heap[c]? = some (.cells #[.map (some bm), .map (some ba)] 47 (0, 0))) (hs1 : w.ownsMap Try.prog 49 (plainElem Try.prog 5) bm n1 D1) (hs2 : w.ownsMap Try.prog 49 (plainElem Try.prog 4) ba n2 D2) (hkey : keyOf Try.prog 49 (.agg #[.int .i64 s, .int .i64 y]) = some kl) (hk : (k != 3) = true) (hk4 : (k != 4) = false) (hk5 : (k == 4) = true) (u : Int) (hh : Maps.has D1 kl = true) (hat : D1.atKey kl (.lit (.int .u8 0)) = .lit (.int .u8 u)) :
    Calls Try.prog 9 #[.pointer (some ⟨c, 0, none⟩), nt k s y t a d, .int .u8 v] w fun e w' => e = .returned (.tuple #[nt k s y t a 1, .bool true]) ∧ w'.ownsMap Try.prog 49 (plainElem Try.prog 5) bm n1 D1 ∧ w'.ownsMap Try.prog 49 (plainElem Try.prog 4) ba n2 (D2.del kl) ∧ Fr w w' (fun i => i = bm ∨ i = ba) := by
  have HAT := Aside0.mk hat
  clear hat
  have HH := Aside0.mk hh
  clear hh
  have hlt := blk_lt hb
  have HNE := Aside0.mk hne
  clear hne
  go_enter Try.func9, Try.ntmps9
  go_wp2
  obtain ⟨W, hWd⟩ : ∃ W, W = (((w.alloc (Obj.cells #[Value.int IntKind.u8 k, Value.int IntKind.i64 s, Value.int IntKind.i64 y, Value.int IntKind.i64 t, Value.int IntKind.i64 a, Value.int IntKind.u8 d] 27)).alloc (Obj.cells #[Value.int IntKind.u8 0, Value.int IntKind.i64 0, Value.int IntKind.i64 0, Value.int IntKind.i64 0, Value.int IntKind.i64 0, Value.int IntKind.u8 0] 27)).alloc (Obj.cells #[Value.int IntKind.i64 s, Value.int IntKind.i64 y] 49)) := ⟨_, rfl⟩
  rw [← hWd]
  have s0 : W.ownsMap Try.prog 49 (plainElem Try.prog 5) bm n1 D1 := by rw [hWd]; exact ((hs1.alloc _).alloc _).alloc _
  have t0 : W.ownsMap Try.prog 49 (plainElem Try.prog 4) ba n2 D2 := by rw [hWd]; exact ((hs2.alloc _).alloc _).alloc _
  have b4 : W.heap[c]? = some (.cells #[.map (some bm), .map (some ba)] 47 (0, 0)) := by rw [hWd]; exact blk_alloc (blk_alloc (blk_alloc hb _) _) _
  have hBW : Below w.heap.size w W := by rw [hWd]; repeat (first | exact Below.refl _ _ | (refine Below.alloc ?_ (by simp; try omega) _))
  have FW : Aside0 (Fr w W (fun i => i = bm ∨ i = ba)) := ⟨Fr.of_below hBW _⟩
  obtain ⟨g1, hg1⟩ : ∃ g, g = w.heap.size := ⟨_, rfl⟩
  have b0 : W.heap[g1]? = some (.cells #[.int .u8 k, .int .i64 s, .int .i64 y, .int .i64 t, .int .i64 a, .int .u8 d] 27 (0, 0)) := by rw [hWd, hg1]; exact blk_alloc (blk_alloc (blk_new _ _) _) _
  have b1 : W.heap[g1 + 1]? = some (.cells #[.int .u8 0, .int .i64 0, .int .i64 0, .int .i64 0, .int .i64 0, .int .u8 0] 27 (0, 0)) := by rw [hWd, hg1]; exact blk_alloc (heap_alloc2_new w _ _) _
  have b2 : W.heap[g1 + 1 + 1]? = some (.cells #[.int .i64 s, .int .i64 y] 49 (0, 0)) := by rw [hWd, hg1]; simpa using blk_new ((w.alloc (Obj.cells #[Value.int IntKind.u8 k, Value.int IntKind.i64 s, Value.int IntKind.i64 y, Value.int IntKind.i64 t, Value.int IntKind.i64 a, Value.int IntKind.u8 d] 27)).alloc (Obj.cells #[Value.int IntKind.u8 0, Value.int IntKind.i64 0, Value.int IntKind.i64 0, Value.int IntKind.i64 0, Value.int IntKind.i64 0, Value.int IntKind.u8 0] 27)) (Obj.cells #[Value.int IntKind.i64 s, Value.int IntKind.i64 y] 49)
  rw [← hg1]
  have hlW : W.heap.size = g1 + 1 + 1 + 1 := by rw [hWd, hg1]; simp
  have hlg : c < g1 := by rw [hg1]; exact hlt
  have nbm : bm < g1 := by rw [hg1]; exact hs1.lt
  have nba : ba < g1 := by rw [hg1]; exact hs2.lt
  have HNM := Aside0.mk nbm
  have HNA := Aside0.mk nba
  have HLG := Aside0.mk hlg
  have HG := Aside0.mk hg1
  have HK := Aside0.mk hkey
  clear hWd hs1 hs2 hb hlt hg1 hBW hlW nbm nba hkey
  obtain ⟨hn0, hn1, hn2, hn3, hn4, hn5, hnf⟩ := cells6 b0
  obtain ⟨hr0, hr1, hr2, hr3, hr4, hr5, hrf⟩ := cells6 b1
  obtain ⟨hx0, hx1, hxf⟩ := cells2 b2
  obtain ⟨hc0, hc1, hcf⟩ := cells2 b4
  refine still_tail_at 5 (by kernel_rfl) (by kernel_rfl) ?_
  intro X eX hX
  have sX : X.ownsMap Try.prog 49 (plainElem Try.prog 5) bm n1 D1 := map_of s0 (by rw [eX])
  have tX : X.ownsMap Try.prog 49 (plainElem Try.prog 4) ba n2 D2 := map_of t0 (by rw [eX])
  have FX : Aside0 (Fr w X (fun i => i = bm ∨ i = ba)) := ⟨FW.out.trans (Fr.same eX hX _)⟩
  rw [← eX] at b0 b1 b2 b4
  clear hn0 hn1 hn2 hn3 hn4 hn5 hnf hr0 hr1 hr2 hr3 hr4 hr5 hrf hx0 hx1 hxf hc0 hc1 hcf hX eX s0 t0 FW
  obtain ⟨hn0, hn1, hn2, hn3, hn4, hn5, hnf⟩ := cells6 b0
  obtain ⟨hr0, hr1, hr2, hr3, hr4, hr5, hrf⟩ := cells6 b1
  obtain ⟨hx0, hx1, hxf⟩ := cells2 b2
  obtain ⟨hc0, hc1, hcf⟩ := cells2 b4
  simp only [List.take_succ_cons, List.take_zero, List.drop_succ_cons, List.drop_zero]
  repeat still_step
  refine wpStill_nil ?_
  go_wp2_with (at_delete; refine wpList_delete_own _ rfl _ _ 45 49 rfl 4 lawK Try.underlying45 _ ba n2 D2 rfl tX _ _ rfl HK.out ?_; intro Y tY hT; have hY := hT.grown; have sY := sX.kept hY (fun e => HNE.out (Option.some.inj e)); have b0_ := blk_grown b0 hY (ne_map tX b0); have b1_ := blk_grown b1 hY (ne_map tX b1); have b2_ := blk_grown b2 hY (ne_map tX b2); have b4_ := blk_grown b4 hY (ne_map tX b4); have FY : Aside0 (Fr w Y (fun i => i = bm ∨ i = ba)) := ⟨FX.out.trans ⟨hY.os, hY.tape, hY.output, hY.size, fun i hi hn => hY.block i hi (fun e => hn (.inr (by injection e)))⟩⟩; clear hn0 hn1 hn2 hn3 hn4 hn5 hnf hr0 hr1 hr2 hr3 hr4 hr5 hrf hx0 hx1 hxf hc0 hc1 hcf b0 b1 b2 b4 FX; obtain ⟨hn0, hn1, hn2, hn3, hn4, hn5, hnf⟩ := cells6 b0_; obtain ⟨hr0, hr1, hr2, hr3, hr4, hr5, hrf⟩ := cells6 b1_; obtain ⟨hx0, hx1, hxf⟩ := cells2 b2_; obtain ⟨hc0, hc1, hcf⟩ := cells2 b4_; have b0 := b0_; have b1 := b1_; have b2 := b2_; have b4 := b4_; clear b0_ b1_ b2_ b4_; clear hT hY sX tX)
  have hrunN : ∀ nq, (Instr.lookup 44 (.map (some bm)) (.agg #[.int .i64 s, .int .i64 y]) true).run Try.prog (Y.drewN nq) = .ok (.tuple #[.int .u8 u, .bool true]) (Y.drewN nq) := by
    intro nq
    have hownN : (Y.drewN nq).ownsMap Try.prog 49 (plainElem Try.prog 5) bm n1 D1 := sY
    obtain ⟨v1, ps, hrun, hv⟩ := hownN.look_ok lawK Try.underlying44 (zero5 _) (plainElem_int Try.underlying5 (by decide)) HK.out
    rw [HAT.out] at hv
    obtain ⟨u', rfl, hu', _⟩ := plainElem_int_inv Try.underlying5 hv
    obtain rfl : (u : Int) = u' := by simpa using congrArg Prod.fst hu'
    rw [HH.out] at hrun
    exact hrun
  have hrun0 := hrunN 0
  go_quiet (fail)
  clear hrunN hrun0
  obtain ⟨Z, hZ⟩ : ∃ X, X = Y.drewN nq := ⟨_, rfl⟩
  rw [← hZ]
  have eZ : Z.heap = Y.heap := by rw [hZ]; rfl
  have sZ : Z.ownsMap Try.prog 49 (plainElem Try.prog 5) bm n1 D1 := map_of sY (by rw [eZ])
  have tZ : Z.ownsMap Try.prog 49 (plainElem Try.prog 4) ba n2 (D2.del kl) := map_of tY (by rw [eZ])
  have FZ : Aside0 (Fr w Z (fun i => i = bm ∨ i = ba)) := ⟨by rw [hZ]; exact Fr.drewN FY.out nq⟩
  rw [← eZ] at b0 b1 b2 b4
  clear hn0 hn1 hn2 hn3 hn4 hn5 hnf hr0 hr1 hr2 hr3 hr4 hr5 hrf hx0 hx1 hxf hc0 hc1 hcf hZ eZ sY tY FY
  obtain ⟨hn0, hn1, hn2, hn3, hn4, hn5, hnf⟩ := cells6 b0
  obtain ⟨hr0, hr1, hr2, hr3, hr4, hr5, hrf⟩ := cells6 b1
  obtain ⟨hx0, hx1, hxf⟩ := cells2 b2
  obtain ⟨hc0, hc1, hcf⟩ := cells2 b4
  go_wp2
  refine bodyPost_ret (results_ct Try.results9 _ _ (g1 + 1) 27 #[.int .u8 k, .int .i64 s, .int .i64 y, .int .i64 t, .int .i64 a, .int .u8 1] (0, 0) _ rfl ?hres Try.underlying27 rfl (by kernel_rfl)) rfl ?_
  case hres => exact put6 (blk_far b1 (show g1 + 1 ≠ g1 by omega) _)
  have e1 := HG.out
  have e2 := HNM.out
  have e3 := HNA.out
  subst e1
  exact ⟨by rfl, own7 sZ (by omega) (by omega) _ _ _ _ _ _ _, own7 tZ (by omega) (by omega) _ _ _ _ _ _ _, fr7 FZ.out (Nat.le_refl _) (Nat.le_succ _) _ _ _ _ _ _ _⟩

set_option maxHeartbeats 8000000 in
theorem back_new {H : Type} (c bm ba n1 n2 : Nat) (D1 D2 : DataW H) (k s y t a d v : Int) (kl : Lit) (w : World) (hd : (d != 0) = false) (hne : bm ≠ ba) (hb : w.heap[c]? = some (.cells #[.map (some bm), .map (some ba)] 47 (0, 0))) (hs1 : w.ownsMap Try.prog 49 (plainElem Try.prog 5) bm n1 D1) (hs2 : w.ownsMap Try.prog 49 (plainElem Try.prog 4) ba n2 D2) (hkey : keyOf Try.prog 49 (.agg #[.int .i64 s, .int .i64 y]) = some kl) (hk : (k != 3) = true) (hk4 : (k != 4) = false) (hk5 : (k == 4) = true) (hh : Maps.has D1 kl = false) (hnm : n1 < maxLen) :
    Calls Try.prog 9 #[.pointer (some ⟨c, 0, none⟩), nt k s y t a d, .int .u8 v] w fun e w' => e = .returned (.tuple #[nt k s y t a 1, .bool true]) ∧ w'.ownsMap Try.prog 49 (plainElem Try.prog 5) bm (n1 + 1) (D1.put kl (.lit (.int .u8 3))) ∧ w'.ownsMap Try.prog 49 (plainElem Try.prog 4) ba n2 (D2.del kl) ∧ Fr w w' (fun i => i = bm ∨ i = ba) := by
  have HN := Aside0.mk hnm
  clear hnm
  have HH := Aside0.mk hh
  clear hh
  have hlt := blk_lt hb
  have HNE := Aside0.mk hne
  clear hne
  go_enter Try.func9, Try.ntmps9
  go_wp2
  obtain ⟨W, hWd⟩ : ∃ W, W = (((w.alloc (Obj.cells #[Value.int IntKind.u8 k, Value.int IntKind.i64 s, Value.int IntKind.i64 y, Value.int IntKind.i64 t, Value.int IntKind.i64 a, Value.int IntKind.u8 d] 27)).alloc (Obj.cells #[Value.int IntKind.u8 0, Value.int IntKind.i64 0, Value.int IntKind.i64 0, Value.int IntKind.i64 0, Value.int IntKind.i64 0, Value.int IntKind.u8 0] 27)).alloc (Obj.cells #[Value.int IntKind.i64 s, Value.int IntKind.i64 y] 49)) := ⟨_, rfl⟩
  rw [← hWd]
  have s0 : W.ownsMap Try.prog 49 (plainElem Try.prog 5) bm n1 D1 := by rw [hWd]; exact ((hs1.alloc _).alloc _).alloc _
  have t0 : W.ownsMap Try.prog 49 (plainElem Try.prog 4) ba n2 D2 := by rw [hWd]; exact ((hs2.alloc _).alloc _).alloc _
  have b4 : W.heap[c]? = some (.cells #[.map (some bm), .map (some ba)] 47 (0, 0)) := by rw [hWd]; exact blk_alloc (blk_alloc (blk_alloc hb _) _) _
  have hBW : Below w.heap.size w W := by rw [hWd]; repeat (first | exact Below.refl _ _ | (refine Below.alloc ?_ (by simp; try omega) _))
  have FW : Aside0 (Fr w W (fun i => i = bm ∨ i = ba)) := ⟨Fr.of_below hBW _⟩
  obtain ⟨g1, hg1⟩ : ∃ g, g = w.heap.size := ⟨_, rfl⟩
  have b0 : W.heap[g1]? = some (.cells #[.int .u8 k, .int .i64 s, .int .i64 y, .int .i64 t, .int .i64 a, .int .u8 d] 27 (0, 0)) := by rw [hWd, hg1]; exact blk_alloc (blk_alloc (blk_new _ _) _) _
  have b1 : W.heap[g1 + 1]? = some (.cells #[.int .u8 0, .int .i64 0, .int .i64 0, .int .i64 0, .int .i64 0, .int .u8 0] 27 (0, 0)) := by rw [hWd, hg1]; exact blk_alloc (heap_alloc2_new w _ _) _
  have b2 : W.heap[g1 + 1 + 1]? = some (.cells #[.int .i64 s, .int .i64 y] 49 (0, 0)) := by rw [hWd, hg1]; simpa using blk_new ((w.alloc (Obj.cells #[Value.int IntKind.u8 k, Value.int IntKind.i64 s, Value.int IntKind.i64 y, Value.int IntKind.i64 t, Value.int IntKind.i64 a, Value.int IntKind.u8 d] 27)).alloc (Obj.cells #[Value.int IntKind.u8 0, Value.int IntKind.i64 0, Value.int IntKind.i64 0, Value.int IntKind.i64 0, Value.int IntKind.i64 0, Value.int IntKind.u8 0] 27)) (Obj.cells #[Value.int IntKind.i64 s, Value.int IntKind.i64 y] 49)
  rw [← hg1]
  have hlW : W.heap.size = g1 + 1 + 1 + 1 := by rw [hWd, hg1]; simp
  have hlg : c < g1 := by rw [hg1]; exact hlt
  have nbm : bm < g1 := by rw [hg1]; exact hs1.lt
  have nba : ba < g1 := by rw [hg1]; exact hs2.lt
  have HNM := Aside0.mk nbm
  have HNA := Aside0.mk nba
  have HLG := Aside0.mk hlg
  have HG := Aside0.mk hg1
  have HK := Aside0.mk hkey
  clear hWd hs1 hs2 hb hlt hg1 hBW hlW nbm nba hkey
  obtain ⟨hn0, hn1, hn2, hn3, hn4, hn5, hnf⟩ := cells6 b0
  obtain ⟨hr0, hr1, hr2, hr3, hr4, hr5, hrf⟩ := cells6 b1
  obtain ⟨hx0, hx1, hxf⟩ := cells2 b2
  obtain ⟨hc0, hc1, hcf⟩ := cells2 b4
  refine still_tail_at 5 (by kernel_rfl) (by kernel_rfl) ?_
  intro X eX hX
  have sX : X.ownsMap Try.prog 49 (plainElem Try.prog 5) bm n1 D1 := map_of s0 (by rw [eX])
  have tX : X.ownsMap Try.prog 49 (plainElem Try.prog 4) ba n2 D2 := map_of t0 (by rw [eX])
  have FX : Aside0 (Fr w X (fun i => i = bm ∨ i = ba)) := ⟨FW.out.trans (Fr.same eX hX _)⟩
  rw [← eX] at b0 b1 b2 b4
  clear hn0 hn1 hn2 hn3 hn4 hn5 hnf hr0 hr1 hr2 hr3 hr4 hr5 hrf hx0 hx1 hxf hc0 hc1 hcf hX eX s0 t0 FW
  obtain ⟨hn0, hn1, hn2, hn3, hn4, hn5, hnf⟩ := cells6 b0
  obtain ⟨hr0, hr1, hr2, hr3, hr4, hr5, hrf⟩ := cells6 b1
  obtain ⟨hx0, hx1, hxf⟩ := cells2 b2
  obtain ⟨hc0, hc1, hcf⟩ := cells2 b4
  simp only [List.take_succ_cons, List.take_zero, List.drop_succ_cons, List.drop_zero]
  repeat still_step
  refine wpStill_nil ?_
  go_wp2_with (at_delete; refine wpList_delete_own _ rfl _ _ 45 49 rfl 4 lawK Try.underlying45 _ ba n2 D2 rfl tX _ _ rfl HK.out ?_; intro Y tY hT; have hY := hT.grown; have sY := sX.kept hY (fun e => HNE.out (Option.some.inj e)); have b0_ := blk_grown b0 hY (ne_map tX b0); have b1_ := blk_grown b1 hY (ne_map tX b1); have b2_ := blk_grown b2 hY (ne_map tX b2); have b4_ := blk_grown b4 hY (ne_map tX b4); have FY : Aside0 (Fr w Y (fun i => i = bm ∨ i = ba)) := ⟨FX.out.trans ⟨hY.os, hY.tape, hY.output, hY.size, fun i hi hn => hY.block i hi (fun e => hn (.inr (by injection e)))⟩⟩; clear hn0 hn1 hn2 hn3 hn4 hn5 hnf hr0 hr1 hr2 hr3 hr4 hr5 hrf hx0 hx1 hxf hc0 hc1 hcf b0 b1 b2 b4 FX; obtain ⟨hn0, hn1, hn2, hn3, hn4, hn5, hnf⟩ := cells6 b0_; obtain ⟨hr0, hr1, hr2, hr3, hr4, hr5, hrf⟩ := cells6 b1_; obtain ⟨hx0, hx1, hxf⟩ := cells2 b2_; obtain ⟨hc0, hc1, hcf⟩ := cells2 b4_; have b0 := b0_; have b1 := b1_; have b2 := b2_; have b4 := b4_; clear b0_ b1_ b2_ b4_; clear hT hY sX tX)
  have hrunN : ∀ nq, (Instr.lookup 44 (.map (some bm)) (.agg #[.int .i64 s, .int .i64 y]) true).run Try.prog (Y.drewN nq) = .ok (.tuple #[.int .u8 0, .bool false]) (Y.drewN nq) := by
    intro nq
    have hownN : (Y.drewN nq).ownsMap Try.prog 49 (plainElem Try.prog 5) bm n1 D1 := sY
    obtain ⟨v1, ps, hrun, hv⟩ := hownN.look_ok lawK Try.underlying44 (zero5 _) (plainElem_int Try.underlying5 (by decide)) HK.out
    rw [atKey_of_not_has HH.out] at hv
    obtain ⟨u', rfl, hu', _⟩ := plainElem_int_inv Try.underlying5 hv
    obtain rfl : (0 : Int) = u' := by simpa using congrArg Prod.fst hu'
    rw [HH.out] at hrun
    exact hrun
  have hrun0 := hrunN 0
  go_quiet (fail)
  clear hrunN hrun0
  obtain ⟨Z, hZ⟩ : ∃ X, X = Y.drewN nq := ⟨_, rfl⟩
  rw [← hZ]
  have eZ : Z.heap = Y.heap := by rw [hZ]; rfl
  have sZ : Z.ownsMap Try.prog 49 (plainElem Try.prog 5) bm n1 D1 := map_of sY (by rw [eZ])
  have tZ : Z.ownsMap Try.prog 49 (plainElem Try.prog 4) ba n2 (D2.del kl) := map_of tY (by rw [eZ])
  have FZ : Aside0 (Fr w Z (fun i => i = bm ∨ i = ba)) := ⟨by rw [hZ]; exact Fr.drewN FY.out nq⟩
  rw [← eZ] at b0 b1 b2 b4
  clear hn0 hn1 hn2 hn3 hn4 hn5 hnf hr0 hr1 hr2 hr3 hr4 hr5 hrf hx0 hx1 hxf hc0 hc1 hcf hZ eZ sY tY FY
  obtain ⟨hn0, hn1, hn2, hn3, hn4, hn5, hnf⟩ := cells6 b0
  obtain ⟨hr0, hr1, hr2, hr3, hr4, hr5, hrf⟩ := cells6 b1
  obtain ⟨hx0, hx1, hxf⟩ := cells2 b2
  obtain ⟨hc0, hc1, hcf⟩ := cells2 b4
  go_wp2
  refine still_tail_at 5 (by kernel_rfl) (by kernel_rfl) ?_
  intro U eU hU
  have sU : U.ownsMap Try.prog 49 (plainElem Try.prog 5) bm n1 D1 := map_of sZ (by rw [eU])
  have tU : U.ownsMap Try.prog 49 (plainElem Try.prog 4) ba n2 (D2.del kl) := map_of tZ (by rw [eU])
  have FU : Aside0 (Fr w U (fun i => i = bm ∨ i = ba)) := ⟨FZ.out.trans (Fr.same eU hU _)⟩
  rw [← eU] at b0 b1 b2 b4
  clear hn0 hn1 hn2 hn3 hn4 hn5 hnf hr0 hr1 hr2 hr3 hr4 hr5 hrf hx0 hx1 hxf hc0 hc1 hcf hU eU sZ tZ FZ
  obtain ⟨hn0, hn1, hn2, hn3, hn4, hn5, hnf⟩ := cells6 b0
  obtain ⟨hr0, hr1, hr2, hr3, hr4, hr5, hrf⟩ := cells6 b1
  obtain ⟨hx0, hx1, hxf⟩ := cells2 b2
  obtain ⟨hc0, hc1, hcf⟩ := cells2 b4
  simp only [List.take_succ_cons, List.take_zero, List.drop_succ_cons, List.drop_zero]
  repeat still_step
  refine wpStill_nil ?_
  go_wp2_with (at_mapUpdate; refine wpList_mapUpdate_own _ rfl _ _ _ 44 rfl 49 5 lawK Try.underlying44 _ bm n1 D1 rfl sU HN.out _ _ _ rfl rfl HK.out _ [] (plainElem_int Try.underlying5 (by decide)) ?_; intro V sV hV; have tV := tU.kept hV (fun e => HNE.out (Option.some.inj e).symm); have b0_ := blk_grown b0 hV (ne_map sU b0); have b1_ := blk_grown b1 hV (ne_map sU b1); have b2_ := blk_grown b2 hV (ne_map sU b2); have b4_ := blk_grown b4 hV (ne_map sU b4); have FV : Aside0 (Fr w V (fun i => i = bm ∨ i = ba)) := ⟨FU.out.trans ⟨hV.os, hV.tape, hV.output, hV.size, fun i hi hn => hV.block i hi (fun e => hn (.inl (by injection e)))⟩⟩; clear hn0 hn1 hn2 hn3 hn4 hn5 hnf hr0 hr1 hr2 hr3 hr4 hr5 hrf hx0 hx1 hxf hc0 hc1 hcf b0 b1 b2 b4 FU; obtain ⟨hn0, hn1, hn2, hn3, hn4, hn5, hnf⟩ := cells6 b0_; obtain ⟨hr0, hr1, hr2, hr3, hr4, hr5, hrf⟩ := cells6 b1_; obtain ⟨hx0, hx1, hxf⟩ := cells2 b2_; obtain ⟨hc0, hc1, hcf⟩ := cells2 b4_; have b0 := b0_; have b1 := b1_; have b2 := b2_; have b4 := b4_; clear b0_ b1_ b2_ b4_)
  refine bodyPost_ret (results_ct Try.results9 _ _ (g1 + 1) 27 #[.int .u8 k, .int .i64 s, .int .i64 y, .int .i64 t, .int .i64 a, .int .u8 1] (0, 0) _ rfl ?hres Try.underlying27 rfl (by kernel_rfl)) rfl ?_
  case hres => exact put6 (blk_far b1 (show g1 + 1 ≠ g1 by omega) _)
  have e1 := HG.out
  have e2 := HNM.out
  have e3 := HNA.out
  subst e1
  exact ⟨by rfl, own7 sV (by omega) (by omega) _ _ _ _ _ _ _, own7 tV (by omega) (by omega) _ _ _ _ _ _ _, fr7 FV.out (Nat.le_refl _) (Nat.le_succ _) _ _ _ _ _ _ _⟩

end Go.Proofs.Ytjfckbdeadnfhaa
