-- printed by this workplace: wip/patchprint.py over the kit's print
import Derived.Test.YtcobkideokljfaaProg
import Derived.Lib.SlBytesConst
import Derived.Below
import Derived.Deep.Draws
import Derived.Deep.AppendLies
import Derived.Maps.AppendAt
import Derived.OwnWalk
import Derived.Laws.BytesArg
import Derived.Laws.MakeOwn
import Derived.Laws.OwnMore
import Derived.Deep.OwnRows
import Derived.Tactics
import Derived.Lib.ConvBytes
import Derived.Laws.Slices
import Derived.WalkKit
import Derived.KernelRfl
import Derived.RowKit3
import Derived.Deep.LoopGhost
import Derived.Deep.QuietTactic
import Derived.BigQuiet
import Derived.WideLaws
import Derived.Deep.DeepCutAuto
import Derived.Deep.CutBlock
import Derived.Deep.RegionHeld3
import Derived.Laws.Rows
import Derived.Lib.AppendStr
import Derived.ArgAppend
import Derived.Laws.IdiomCopy
import Derived.OrdersHeld
import Derived.Laws.BitsLemmas
import Derived.RowKit
import Derived.Test.YtcobkideokljfaaWWords
import Derived.Test.YtcobkideokljfaaWLast
import Derived.Test.YtcobkideokljfaaWTab
import Derived.Test.YtcobkideokljfaaWFour
import Derived.Test.YtcobkideokljfaaWQPut
import Derived.Test.YtcobkideokljfaaWApart
import Derived.Test.YtcobkideokljfaaWArr
import Derived.Test.YtcobkideokljfaaWZeros
import Derived.Test.YtcobkideokljfaaWFoot
import Derived.Test.YtcobkideokljfaaWKept
import Derived.Test.YtcobkideokljfaaWShare
import Derived.Test.YtcobkideokljfaaWN
import Derived.Test.YtcobkideokljfaaWFootNe
import Derived.Test.YtcobkideokljfaaWAt
import Derived.Test.YtcobkideokljfaaWEqStruct
import Derived.Test.YtcobkideokljfaaWRepsOne
import Derived.Test.YtcobkideokljfaaWInv
import Derived.Test.YtcobkideokljfaaWInvWords
import Derived.Test.YtcobkideokljfaaWGuard
import Derived.Test.YtcobkideokljfaaWNEv
import Derived.Test.YtcobkideokljfaaWMore
namespace Go.Proofs.Ytcobkideokljfaa.PA
open Go.RowKit Go.Proofs.YtcobkideokljfaaW.PrintWords Go.Proofs.YtcobkideokljfaaW.PrintLast Go.Proofs.YtcobkideokljfaaW.PrintMore
attribute [local go_sem] max2_int min2_int max_two min_two max_three min_three max_four min_four   -- for this text's walks alone
set_option linter.unusedVariables false
set_option linter.unusedSimpArgs false



def errW : Option Int → Value
  | none => .nilIface
  | some c => .iface 0 (.int .i64 c)
theorem errW_none : errW none = .nilIface := rfl
theorem errW_some (c : Int) : errW (some c) = .iface 0 (.int .i64 c) := rfl

abbrev T : Bool := true
abbrev F : Bool := false
abbrev kN := @blk_drewN
abbrev kD := @blk_drew
abbrev kA := @blk_alloc
abbrev kF := @blk_frozen
abbrev kC := @blk_cell
abbrev kR := @blk_far
abbrev kP := @blk_put
abbrev kS := @below_set
abbrev kM := @pw_below_drewN
abbrev kE := @below_drew1
abbrev kL := @below_alloc
theorem bxc6 {W : World} {g : Nat} {t : TypeId} {c0 c1 c2 c3 c4 c5 : Value} (h : W.heap[g]? = some (.cells #[c0, c1, c2, c3, c4, c5] t (0, 0))) : W.cell? ⟨g, 0, none⟩ = some c0 ∧ W.cell? ⟨g, 1, none⟩ = some c1 ∧ W.cell? ⟨g, 2, none⟩ = some c2 ∧ W.cell? ⟨g, 3, none⟩ = some c3 ∧ W.cell? ⟨g, 4, none⟩ = some c4 ∧ W.cell? ⟨g, 5, none⟩ = some c5 ∧ W.frozen? ⟨g, 0, none⟩ = false ∧ W.frozen? ⟨g, 1, none⟩ = false ∧ W.frozen? ⟨g, 2, none⟩ = false ∧ W.frozen? ⟨g, 3, none⟩ = false ∧ W.frozen? ⟨g, 4, none⟩ = false ∧ W.frozen? ⟨g, 5, none⟩ = false := ⟨(blk_cell h 0).trans rfl, (blk_cell h 1).trans rfl, (blk_cell h 2).trans rfl, (blk_cell h 3).trans rfl, (blk_cell h 4).trans rfl, (blk_cell h 5).trans rfl, blk_frozen h 0, blk_frozen h 1, blk_frozen h 2, blk_frozen h 3, blk_frozen h 4, blk_frozen h 5⟩
theorem bxp6_0 {W : World} {g : Nat} {t : TypeId} {c1 c2 c3 c4 c5 o u : Value} (h : W.heap[g]? = some (.cells #[o, c1, c2, c3, c4, c5] t (0, 0))) : (W.setCell ⟨g, 0, none⟩ u).heap[g]? = some (.cells #[u, c1, c2, c3, c4, c5] t (0, 0)) := blk_put h 0 u rfl
theorem bxp6_1 {W : World} {g : Nat} {t : TypeId} {c0 c2 c3 c4 c5 o u : Value} (h : W.heap[g]? = some (.cells #[c0, o, c2, c3, c4, c5] t (0, 0))) : (W.setCell ⟨g, 1, none⟩ u).heap[g]? = some (.cells #[c0, u, c2, c3, c4, c5] t (0, 0)) := blk_put h 1 u rfl
theorem bxp6_2 {W : World} {g : Nat} {t : TypeId} {c0 c1 c3 c4 c5 o u : Value} (h : W.heap[g]? = some (.cells #[c0, c1, o, c3, c4, c5] t (0, 0))) : (W.setCell ⟨g, 2, none⟩ u).heap[g]? = some (.cells #[c0, c1, u, c3, c4, c5] t (0, 0)) := blk_put h 2 u rfl
theorem bxp6_3 {W : World} {g : Nat} {t : TypeId} {c0 c1 c2 c4 c5 o u : Value} (h : W.heap[g]? = some (.cells #[c0, c1, c2, o, c4, c5] t (0, 0))) : (W.setCell ⟨g, 3, none⟩ u).heap[g]? = some (.cells #[c0, c1, c2, u, c4, c5] t (0, 0)) := blk_put h 3 u rfl
theorem bxp6_4 {W : World} {g : Nat} {t : TypeId} {c0 c1 c2 c3 c5 o u : Value} (h : W.heap[g]? = some (.cells #[c0, c1, c2, c3, o, c5] t (0, 0))) : (W.setCell ⟨g, 4, none⟩ u).heap[g]? = some (.cells #[c0, c1, c2, c3, u, c5] t (0, 0)) := blk_put h 4 u rfl
theorem bxp6_5 {W : World} {g : Nat} {t : TypeId} {c0 c1 c2 c3 c4 o u : Value} (h : W.heap[g]? = some (.cells #[c0, c1, c2, c3, c4, o] t (0, 0))) : (W.setCell ⟨g, 5, none⟩ u).heap[g]? = some (.cells #[c0, c1, c2, c3, c4, u] t (0, 0)) := blk_put h 5 u rfl
theorem bxw6 {W : World} {g : Nat} {t : TypeId} (c0 c1 c2 c3 c4 c5 : Value) {v0 v1 v2 v3 v4 v5 : Value} (h : W.heap[g]? = some (.cells #[c0, c1, c2, c3, c4, c5] t (0, 0))) : ((((((W.setCell ⟨g, 0, none⟩ v0).setCell ⟨g, 1, none⟩ v1).setCell ⟨g, 2, none⟩ v2).setCell ⟨g, 3, none⟩ v3).setCell ⟨g, 4, none⟩ v4).setCell ⟨g, 5, none⟩ v5).heap[g]? = some (.cells #[v0, v1, v2, v3, v4, v5] t (0, 0)) := bxp6_5 (bxp6_4 (bxp6_3 (bxp6_2 (bxp6_1 (bxp6_0 (h))))))
theorem store_run {P : Program} {a : Act} {o : Oper} {W : World} {ty t' : TypeId} {x y : Operand} {b : Nat} {cells : Array Value} (cs : Array Value) (ho : o.op = .store ty x y) (hx : a.eval x = .pointer (some ⟨b, 0, none⟩)) (hy : a.eval y = .agg cells) (hb : W.heap[b]? = some (.cells cs t' (0, 0))) (hs : cells.size ≤ cs.size) (hi : (P.info? ty).map (·.size) = some cells.size) (h1 : cells.all (·.oneCell') = true) : (execOp a.eval o).run P W = .ok .skip (W.setCells b 0 cells.toList) := by
  have hr := run_storeCells_cells (P := P) b 0 cells.toList 0 W (fun j hj => by simp only [Nat.zero_add]; rw [blk_cell hb j, Array.getElem?_eq_getElem (by simp at hj; omega)]; rfl) (fun j hj => by simp only [Nat.zero_add]; exact blk_frozen hb j)
    (fun v hv => (Array.all_eq_true_iff_forall_mem.1 h1) v (by simpa using hv))
  have hv : (storeVar ty ⟨b, 0, none⟩ (.agg cells)).run P W = .ok () (W.setCells b 0 cells.toList) := by
    cases hq : P.info? ty with
    | none => simp [hq] at hi
    | some i =>
      have hz : cells.size = i.size := by simp [hq] at hi; omega
      simp only [Nat.add_zero] at hr
      simp [storeVar, sizeOf, typeInfo, hq, Value.cells, hz, hr]
  unfold execOp
  simp only [ho, hx, hy, Instr.storeAt, Instr.sureAddr, Sem.run_bind, Sem.run_pure, Result.andThen_ok, hv]
theorem rec_event {P : Program} {ops : Array Oper} {o : Oper} {rest : List Oper} {a : Act} {Q : Exit → Act → World → Prop} {W : World} {t t' : TypeId} {p : Tmp} {v : Operand} {g : Nat} (cs cells : Array Value) (hgd : o.guard = none) (ho : o.op = .store t (.tmp p) v) (hN : o.dst = none)
    (hx : a.eval (.tmp p) = .pointer (some ⟨g, 0, none⟩)) (hy : a.eval v = .agg cells) (hb : W.heap[g]? = some (.cells cs t' (0, 0))) (hs : cells.size = cs.size) (hi : (P.info? t).map (·.size) = some cells.size) (h1 : cells.all (·.oneCell') = true)
    (h : ∀ w', w'.heap[g]? = some (.cells cells t' (0, 0)) → (∀ i, i ≠ g → w'.heap[i]? = W.heap[i]?) → (∀ B, B ≤ g → Below B W w') → wpList P ops Q rest a w') : wpList P ops Q (o :: rest) a W := by
  have hrun := store_run cs ho hx hy hb (Nat.le_of_eq hs) hi h1
  have far : ∀ (vs : List Value) (j : Nat) (W' : World), (∀ i, i ≠ g → (W'.setCells g j vs).heap[i]? = W'.heap[i]?) ∧ (∀ B, B ≤ g → Below B W' (W'.setCells g j vs)) := by
    intro vs
    induction vs with
    | nil => intro j W'; exact ⟨fun _ _ => rfl, fun B _ => Below.refl B W'⟩
    | cons u us ih =>
      intro j W'
      obtain ⟨h1, h2⟩ := ih (j + 1) (W'.setCell ⟨g, j, none⟩ u)
      exact ⟨fun i hi => (h1 i hi).trans (Below.heap_setCell W' ⟨g, j, none⟩ u i hi), fun B hB => ((Below.refl B W').setCell hB u).trans (h2 B hB)⟩
  have put : ∀ (us : List Value) (j : Nat) (W' : World) (ds : Array Value), W'.heap[g]? = some (.cells ds t' (0, 0)) → j + us.length = ds.size → ∃ es : Array Value, (W'.setCells g j us).heap[g]? = some (.cells es t' (0, 0)) ∧ es.toList = ds.toList.take j ++ us := by
    intro us
    induction us with
    | nil => intro j W' ds hW hl; exact ⟨ds, hW, by simp at hl ⊢; rw [List.take_of_length_le (by simp; omega)]⟩
    | cons u us ih =>
      intro j W' ds hW hl
      simp only [List.length_cons] at hl
      obtain ⟨es, h1, h2⟩ := ih (j + 1) (W'.setCell ⟨g, j, none⟩ u) (ds.setIfInBounds j u) (blk_put hW j u rfl) (by simp; omega)
      refine ⟨es, h1, ?_⟩
      rw [h2]
      have : (ds.setIfInBounds j u).toList.take (j + 1) = ds.toList.take j ++ [u] := by
        rw [Array.toList_setIfInBounds, List.take_add_one, List.take_set_of_le (Nat.le_refl j), List.getElem?_set_self (by simp; omega)]
        rfl
      rw [this]; simp
  obtain ⟨es, e1, e2⟩ := put cells.toList 0 W cs hb (by simp; omega)
  have e3 : es = cells := by apply Array.toList_inj.1; simpa using e2
  subst e3
  refine wpList_plain hgd fun K hK => ?_
  unfold Oper.wp
  rw [hrun]
  show K (a.put o.dst undef) _
  rw [hN]
  exact hK _ _ (h _ e1 (far _ _ _).1 (far _ _ _).2)
theorem info5 : (Try.prog.info? 5).map (fun i => (i.zero, i.size, i.bytes)) = some (some (.int .u8 0), 1, 1) := by kernel_rfl
theorem info22 : (Try.prog.info? 22).map (fun i => (i.zero, i.size, i.bytes)) = some (some (.slice none 0 0), 1, 24) := by kernel_rfl
-- the values' own types
def rd_L1 (xs : List (List Int)) (i : Int) : (List Int) := xs.getD i.toNat ([] : List Int)
theorem at_L1 {w : World} {A : Option Addr} {n : Nat} {xs : List (List Int)} (h : Kd.C (Kd.slice 5 (Kd.int .u8)) w A n xs) (i : Int) (h0 : 0 ≤ i) (h1 : i < n) : ∃ ad A0 c0, A = some ad ∧ w.cell? (ad.add i.toNat) = some (.slice A0 (rd_L1 xs i).length c0) ∧ (rd_L1 xs i).length ≤ c0 ∧ (Kd.int .u8).C w A0 (rd_L1 xs i).length (rd_L1 xs i) := by
  obtain ⟨ad, c, e, _, hK, hc0⟩ := Kd.C_get h ([] : List Int) i h0 h1
  have hc : ∀ j u, c[j]? = some u → w.cell? (ad.add (i.toNat * 1 + j)) = some u := hc0
  obtain ⟨A0, c0, rfl, l0, g0⟩ := hK
  exact ⟨ad, A0, c0, e, by have hq := hc 0 _ rfl; rwa [Nat.mul_one, Nat.add_zero] at hq, l0, g0⟩

/-! #### struct type 68 -/
structure S68 where
  f0 : Int
  f1 : (List Int)
def z68 : S68 := ⟨(0 : Int), ([] : List Int)⟩
def k68 : Kd S68 := Kd.iso (Kd.pair (Kd.int .i64) (Kd.slice 5 (Kd.int .u8))) (fun x : S68 => (x.f0, x.f1))
theorem k68_heap : Kd.Heap k68 := Kd.heap_iso _ (Kd.heap_pair (Kd.heap_int .i64) (Kd.heap_slice 5 (Kd.heap_int .u8)))
theorem k68_open {w : World} {x : S68} {cs : List Value} (h : k68.K w x cs) : ∃ A1 c1, cs = [.int .i64 x.f0, .slice A1 x.f1.length c1] ∧ x.f1.length ≤ c1 ∧ (Kd.int .u8).C w A1 x.f1.length x.f1 := by
  obtain ⟨_, _, rfl, rfl, ⟨A1, c1, rfl, l1, g1⟩⟩ := h
  exact ⟨A1, c1, rfl, l1, g1⟩
theorem k68_openM {w : World} {base : Nat} {ok : Nat → Prop} {x : S68} {cs : List Value} (h : k68.M w base ok x cs) : ∃ v1, cs = [.int .i64 x.f0, v1] ∧ (Kd.int .u8).R 5 w base ok v1 x.f1 := by
  obtain ⟨_, _, rfl, rfl, ⟨v1, rfl, g1⟩⟩ := h
  exact ⟨v1, rfl, g1⟩
theorem k68_mk (w : World) (x : S68) {A1 : Option Addr} {c1 : Nat} (l1 : x.f1.length ≤ c1) (g1 : (Kd.int .u8).C w A1 x.f1.length x.f1) : k68.K w x [.int .i64 x.f0, .slice A1 x.f1.length c1] := ⟨[.int .i64 x.f0], [.slice A1 x.f1.length c1], rfl, rfl, ⟨A1, c1, rfl, l1, g1⟩⟩
theorem k68_mkM (w : World) (base : Nat) (ok : Nat → Prop) (x : S68) {v1 : Value} (g1 : (Kd.int .u8).R 5 w base ok v1 x.f1) : k68.M w base ok x [.int .i64 x.f0, v1] := ⟨[.int .i64 x.f0], [v1], rfl, rfl, ⟨v1, rfl, g1⟩⟩
theorem k68_openF {W : World} {ok : Nat → Prop} {x : S68} {cs : List Value} (h : Kd.FK k68 W ok x cs) : ∃ A1 c1, cs = [.int .i64 x.f0, .slice A1 x.f1.length c1] ∧ x.f1.length ≤ c1 ∧ Kd.F (Kd.int .u8) W ok A1 x.f1.length x.f1 := by
  obtain ⟨A1, c1, rfl, l1, _⟩ := k68_open (Kd.FK_now h)
  exact ⟨A1, c1, rfl, l1, (fun W' hW => by obtain ⟨A1_, c1_, he, l1_, g1_⟩ := k68_open (h W' hW); injection (Option.some.inj (show some (Value.slice A1 x.f1.length c1) = some (Value.slice A1_ x.f1.length c1_) from congrArg (fun l => l[1]?) he)) with ha_ _ _; rw [ha_]; exact g1_)⟩
theorem k68_mkF (W : World) (ok : Nat → Prop) (x : S68) {A1 : Option Addr} {c1 : Nat} (l1 : x.f1.length ≤ c1) (g1 : Kd.F (Kd.int .u8) W ok A1 x.f1.length x.f1) : Kd.FK k68 W ok x [.int .i64 x.f0, .slice A1 x.f1.length c1] := fun W2 hW => k68_mk W2 x l1 (g1 W2 hW)
def rd_T68 (xs : List S68) (i : Int) : S68 := xs.getD i.toNat z68
theorem at_T68 {w : World} {A : Option Addr} {n : Nat} {xs : List S68} (h : Kd.C k68 w A n xs) (i : Int) (h0 : 0 ≤ i) (h1 : i < n) : ∃ ad A1 c1, A = some ad ∧ w.cell? (ad.add (i.toNat * 2)) = some (.int .i64 (rd_T68 xs i).f0) ∧ w.cell? ⟨(ad.add (i.toNat * 2)).block, (ad.add (i.toNat * 2)).off + 1, none⟩ = some (.slice A1 (rd_T68 xs i).f1.length c1) ∧ (rd_T68 xs i).f1.length ≤ c1 ∧ (Kd.int .u8).C w A1 (rd_T68 xs i).f1.length (rd_T68 xs i).f1 := by
  obtain ⟨ad, c, e, _, hK, hc0⟩ := Kd.C_get h z68 i h0 h1
  have hc : ∀ j u, c[j]? = some u → w.cell? (ad.add (i.toNat * 2 + j)) = some u := hc0
  obtain ⟨A1, c1, rfl, l1, g1⟩ := k68_open hK
  exact ⟨ad, A1, c1, e, hc 0 _ rfl, by rw [← add_field _ _ 1 (by omega)]; exact hc 1 _ rfl, l1, g1⟩

end Go.Proofs.Ytcobkideokljfaa.PA
